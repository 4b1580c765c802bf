/- What the proof of TopBounded leans on: part 11. -/
import Derived.Test.YteecadoakmdibaaGreatQ2
import Derived.Test.YteecadoakmdibaaGreatQ7
import Derived.Test.YteecadoakmdibaaGreatQ8
import Derived.Test.YteecadoakmdibaaGreatQ10
set_option maxRecDepth 100000
set_option maxHeartbeats 4000000
namespace Go.Proofs.YteecadoakmdibaaGreat
open Go Go.RowKit
section
open Sx
variable {w0 w : World} {bs : List Sx.Bx} {rs : List Sx.Rx} {K : Nat → Option Obj} {g1 g2 g3 g4 g5 g6 g7 g8 g9 g10 g11 g12 g13 g14 g15 g16 g17 g18 g19 g20 g21 g22 g23 g24 c1 c2 c3 c4 c5 c6 c7 c8 c9 : Nat} {v1 v2 v3 v4 v5 v6 v7 v8 v9 : Value} {n b : BitVec 64} {at' : BitVec 128} {kd lf : BitVec 8}
theorem cx21 (hbc1 : 16 ≤ c1) (H : Sx.Own w0 w (Bt g1 [sL g2 0 16 c1, bF] :: bs) (⟨true, sL g2 0 16 c1, 5, 1, 16, L159⟩ :: rs) K) : Cq 129 #[pT g1 0, iI 1] w fun x w' => ∃ g3 c2 : Nat, 1 ≤ c2 ∧ x = sL g3 0 1 c2 ∧ Sx.Own w0 w' (Bt g1 [sL g2 1 15 (c1 - 1), bF] :: Bt g2 L159 :: bs) (⟨true, sL g3 0 1 c2, 5, 1, 1, [iB 0]⟩ :: rs) K := by
 refine En Tryz.func129 Tryz.ntmps129 fun A F => ?_
 refine Sp fun _ kk => Av F fun A F => ?_
 refine Nl kk (Sx.seq fun K2 hK2 => Sp fun _ kk => ?_)
 iterate 4 (refine Av F ?_; intro A F)
 refine Zv F (d_lenS el_66 F rfl rfl) fun A F => ?_
 iterate 2 (refine Av F ?_; intro A F)
 refine Nl kk (condF F rfl (wp_skip (hK2 _ _ (Sp fun _ kk => ?_))))
 iterate 5 (refine Av F ?_; intro A F)
 have H := H.rowBox (i := 0) rfl
 refine Zv F (d_sliceH (h := 1) el_66 F rfl rfl rfl rfl (by omega)) fun A F => ?_
 refine Av F fun A F => ?_
 refine Nl kk (Sp fun _ kk => ?_)
 iterate 6 (refine Av F ?_; intro A F)
 refine Zv F (d_sliceL' (l := 1) el_66 F rfl rfl rfl rfl (by omega) (by omega)) fun A F => ?_
 iterate 2 (refine Av F ?_; intro A F)
 refine Zs 1 [sL g2 1 15 (c1 - 1), bF] sz_66 F H fun A w F H => ?_
 refine Nl kk (Sp fun _ kk => Av F fun A F => ?_)
 have H := Sx.Own.nilR H 5 1
 refine Zr (mk := fun v => v) F (d_appendW (i := 0) (news := [iB 0]) el_66 F H rfl rfl rfl rfl rfl (fun j u hu => Sx.box_part (news := [iB 0]) (H.box 0 g2 _ rfl).1 rfl j u hu) rfl rfl (by decide) (by decide)) fun v1 A w F H => ?_
 obtain ⟨g3, c2, rfl, hbc2, hdc2⟩ := H.open (i := 0) rfl (by decide)
 refine Av F fun A F => ?_
 refine Nl kk (Wr (ret1 F Tryz.results129 (res_tmp F rfl) ?_))
 exact ⟨_, rfl, g3, c2, (by omega), rfl, H.pickN 2 2 [1, 0] [0]⟩
abbrev L160 : Value := .tuple #[.agg #[iU 0, iU 0], iI 0]
theorem cx22 (hbc1 : 16 ≤ c1) (H : Sx.Own w0 w (Bt g1 [sL g2 0 16 c1, bF] :: bs) (⟨true, sL g2 0 16 c1, 5, 1, 16, L159⟩ :: rs) K) : Cr 127 #[pT g1 0, iI 1] w0 w (iU 0) (Bt g1 [sL g2 1 15 (c1 - 1), bF] :: Bt g2 L159 :: bs) rs K := by
 refine En Tryz.func127 Tryz.ntmps127 fun A F => ?_
 refine Sp fun _ kk => Av F fun A F => ?_
 refine Nl kk (Sp fun _ kk => Zr (mk := fun v => v) F (d_make (m := 16) Sx.undU8 Sx.infU8 rfl F H rfl rfl rfl (by decide) (by decide)) fun v1 A w F H => ?_)
 have H := H.xs (i := 0) (ys := L150) rfl (by kernel_rfl)
 obtain ⟨g3, c2, rfl, hbc2, hdc2⟩ := H.open (i := 0) rfl (by decide)
 refine Av F fun A F => ?_
 refine Nl kk (Sp fun _ kk => ?_)
 iterate 3 (refine Av F ?_; intro A F)
 have H := H.pickN 1 2 [0] [1, 0]
 refine Zx F (Do if_129 F (cx21 (by omega) H)) ?_
 rintro _ w ⟨g4, c3, hbc3, rfl, H⟩ A F
 have H := H.rowBox (i := 1) rfl
 refine Zx F (d_copyB (i := 0) (cs := [iB 0]) (us := L150) (m := 1) (el_66).1 (by kernel_rfl) F H rfl rfl rfl rfl (by decide) (fun j u hu => Sx.box_part (news := [iB 0]) ((H.rowBox (i := 0) rfl).box 0 g4 _ rfl).1 rfl j u hu) rfl rfl (Nat.le_of_ble_eq_true rfl) rfl) ?_
 rintro _ w ⟨rfl, H⟩ A F
 have H : Sx.Own w0 w (Bt g3 L150 :: Bt g1 [sL g2 1 15 (c1 - 1), bF] :: Bt g2 L159 :: bs) (⟨true, sL g4 0 1 c3, 5, 1, 1, [iB 0]⟩ :: ⟨false, undef, 5, 1, 0, []⟩ :: rs) K := H
 refine Nl kk (Sp fun _ kk => Av F fun A F => ?_)
 refine Zw F (d_call (vs := [sL g3 0 16 c2]) (v := L160) if_144 F H rfl rfl (Calls.val (Sx.take_box [0, 0, 0, 0, 0, 0, 0, 0, 0, 0, 0, 0, 0, 0, 0, 0] 0#128 rfl (by decide +kernel) (by decide) (H.box 0 g3 _ rfl).1 rfl) rfl (by kernel_rfl))) fun A w F H => ?_
 iterate 3 (refine Av F ?_; intro A F)
 refine Zb F (d_alloc H rfl [iU 0, iU 0] zero_26) fun g5 A w F H => ?_
 refine Zs 0 [iU 0, iU 0] sz_26 F H fun A w F H => ?_
 refine Av F fun A F => ?_
 refine Nl kk (Sp fun _ kk => ?_)
 iterate 3 (refine Av F ?_; intro A F)
 refine Nl kk (Wr (ret1 F Tryz.results127 (res_tmp F rfl) ?_))
 exact ⟨_, rfl, rfl, H.pickN 4 2 [2, 3] []⟩
theorem cx23 (H : Sx.Own w0 w bs rs K) : Cr 86 #[L147] w0 w (.tuple #[L147, bT]) bs rs K := by
 refine En Tryz.func86 Tryz.ntmps86 fun A F => ?_
 refine Sp fun _ kk => Zb F (d_box F H rfl rfl L146 rfl) fun g1 A w F H => ?_
 refine Zb F (d_alloc H rfl L146 zero_71) fun g2 A w F H => ?_
 refine Av F fun A F => ?_
 refine Nl kk (Sp fun _ kk => ?_)
 iterate 2 (refine Av F ?_; intro A F)
 refine Zv F (d_build (qs := #[(0, iI 0)]) (v := L147) F rfl rfl (by kernel_rfl)) fun A F => ?_
 refine Zb F (d_alloc H rfl L146 zero_71) fun g3 A w F H => ?_
 refine Zs 0 L146 sz_71 F H fun A w F H => ?_
 refine Nl kk (Sx.seq fun K3 hK3 => Sp fun _ kk => ?_)
 iterate 2 (refine Av F ?_; intro A F)
 refine Nl kk (wp_block (Sp fun _ kk => ?_))
 iterate 2 (refine Av F ?_; intro A F)
 refine Nl kk (condT F rfl ?_)
 have F := F.tq (L148 g1 g2 g3) rfl
 refine Dn F [some (pT g1 3), some (iI 0), some (pT g1 4), some (iU 0), some (pT g3 3), none, some (pT g3 4), none] (fun L A w => Sx.Own w0 w (Bt g3 L146 :: Bt g2 L146 :: Bt g1 L146 :: bs) rs K) (H.drew.padG [] [] rfl rfl) ?_ ?_
 ·refine ⟨?_, ?_, ?_, ?_, ?_, ?_, ?_, ?_, trivial⟩
  ·exact Sa
  ·exact SV (fun _ _ _ F H => Ld 2 one_3 F H)
  ·exact Sa
  ·exact SV (fun _ _ _ F H => Ld 2 one_22 F H)
  ·exact Sa
  ·intro L A w up hun hd F H
   refine step_on rfl (d_store (i := 0) (xs := [iI 0]) (us := L146) sz_3 F H rfl rfl rfl rfl rfl rfl rfl (Nat.le_of_ble_eq_true rfl) rfl) ?_
   intro xv w' H
   exact ⟨Cn, H⟩
  ·exact Sa
  ·intro L A w up hun hd F H
   refine step_on rfl (d_store (i := 0) (xs := [iU 0]) (us := L146) sz_22 F H rfl rfl rfl rfl rfl rfl rfl (Nat.le_of_ble_eq_true rfl) rfl) ?_
   intro xv w' H
   exact ⟨Cn, H⟩
 ·intro L A w hL F H
  have H := H.pickN 3 0 [0, 1, 2] []
  have F := F.tq (L148 g1 g2 g3) rfl
  refine hK3 _ _ (Sp fun _ kk => Av F fun A F => ?_)
  refine Zs 1 L146 sz_71 F H fun A w F H => ?_
  refine Av F fun A F => ?_
  refine Nl kk (Wr (ret2 F Tryz.results86 (res_row (i := 1) (xs := L146) rw_71 F H rfl rfl rfl rfl) (res_tmp F rfl) ?_))
  exact ⟨_, rfl, rfl, H.pickN 3 0 [] []⟩
theorem cx24 (hbc1 : 16 ≤ c1) (H : Sx.Own w0 w (Bt g1 [sL g2 1 15 (c1 - 1), bF] :: Bt g2 L159 :: bs) rs K) : Cq 129 #[pT g1 0, iI 1] w fun x w' => ∃ g3 c2 : Nat, 1 ≤ c2 ∧ x = sL g3 0 1 c2 ∧ Sx.Own w0 w' (Bt g1 [sL g2 2 14 (c1 - 1 - 1), bF] :: Bt g2 L159 :: bs) (⟨true, sL g3 0 1 c2, 5, 1, 1, [iB 1]⟩ :: rs) K := by
 refine En Tryz.func129 Tryz.ntmps129 fun A F => ?_
 refine Sp fun _ kk => Av F fun A F => ?_
 refine Nl kk (Sx.seq fun K2 hK2 => Sp fun _ kk => ?_)
 iterate 4 (refine Av F ?_; intro A F)
 refine Zv F (d_lenS el_66 F rfl rfl) fun A F => ?_
 iterate 2 (refine Av F ?_; intro A F)
 refine Nl kk (condF F rfl (wp_skip (hK2 _ _ (Sp fun _ kk => ?_))))
 iterate 5 (refine Av F ?_; intro A F)
 refine Zv F (d_sliceH (h := 1) el_66 F rfl rfl rfl rfl (by omega)) fun A F => ?_
 refine Av F fun A F => ?_
 refine Nl kk (Sp fun _ kk => ?_)
 iterate 6 (refine Av F ?_; intro A F)
 refine Zv F (d_sliceL' (l := 1) el_66 F rfl rfl rfl rfl (by omega) (by omega)) fun A F => ?_
 iterate 2 (refine Av F ?_; intro A F)
 refine Zs 0 [sL g2 2 14 (c1 - 1 - 1), bF] sz_66 F H fun A w F H => ?_
 refine Nl kk (Sp fun _ kk => Av F fun A F => ?_)
 have H := Sx.Own.nilR H 5 1
 refine Zr (mk := fun v => v) F (d_appendW (i := 0) (news := [iB 1]) el_66 F H rfl rfl rfl rfl rfl (fun j u hu => Sx.box_part (news := [iB 1]) (H.box 1 g2 _ rfl).1 rfl j u hu) rfl rfl (by decide) (by decide)) fun v1 A w F H => ?_
 obtain ⟨g3, c2, rfl, hbc2, hdc2⟩ := H.open (i := 0) rfl (by decide)
 refine Av F fun A F => ?_
 refine Nl kk (Wr (ret1 F Tryz.results129 (res_tmp F rfl) ?_))
 exact ⟨_, rfl, g3, c2, (by omega), rfl, H.pickN 2 1 [0, 1] [0]⟩
theorem cx25 (hbc1 : 16 ≤ c1) (H : Sx.Own w0 w (Bt g1 [sL g2 1 15 (c1 - 1), bF] :: Bt g2 L159 :: bs) rs K) : Cr 127 #[pT g1 0, iI 1] w0 w (iU 1) (Bt g1 [sL g2 2 14 (c1 - 1 - 1), bF] :: Bt g2 L159 :: bs) rs K := by
 refine En Tryz.func127 Tryz.ntmps127 fun A F => ?_
 refine Sp fun _ kk => Av F fun A F => ?_
 refine Nl kk (Sp fun _ kk => Zr (mk := fun v => v) F (d_make (m := 16) Sx.undU8 Sx.infU8 rfl F H rfl rfl rfl (by decide) (by decide)) fun v1 A w F H => ?_)
 have H := H.xs (i := 0) (ys := L150) rfl (by kernel_rfl)
 obtain ⟨g3, c2, rfl, hbc2, hdc2⟩ := H.open (i := 0) rfl (by decide)
 refine Av F fun A F => ?_
 refine Nl kk (Sp fun _ kk => ?_)
 iterate 3 (refine Av F ?_; intro A F)
 refine Zx F (Do if_129 F (cx24 (by omega) H)) ?_
 rintro _ w ⟨g4, c3, hbc3, rfl, H⟩ A F
 have H := H.rowBox (i := 1) rfl
 refine Zx F (d_copyB (i := 0) (cs := [iB 1]) (us := L149) (m := 1) (el_66).1 (by kernel_rfl) F H rfl rfl rfl rfl (by decide) (fun j u hu => Sx.box_part (news := [iB 1]) ((H.rowBox (i := 0) rfl).box 0 g4 _ rfl).1 rfl j u hu) rfl rfl (Nat.le_of_ble_eq_true rfl) rfl) ?_
 rintro _ w ⟨rfl, H⟩ A F
 have H : Sx.Own w0 w (Bt g3 L149 :: Bt g1 [sL g2 2 14 (c1 - 1 - 1), bF] :: Bt g2 L159 :: bs) (⟨true, sL g4 0 1 c3, 5, 1, 1, [iB 1]⟩ :: ⟨false, undef, 5, 1, 0, []⟩ :: rs) K := H
 refine Nl kk (Sp fun _ kk => Av F fun A F => ?_)
 refine Zw F (d_call (vs := [sL g3 0 16 c2]) (v := .tuple #[.agg #[iU 0, iU 1], iI 0]) if_144 F H rfl rfl (Calls.val (Sx.take_box [1, 0, 0, 0, 0, 0, 0, 0, 0, 0, 0, 0, 0, 0, 0, 0] 1#128 rfl (by decide +kernel) (by decide) (H.box 0 g3 _ rfl).1 rfl) rfl (by kernel_rfl))) fun A w F H => ?_
 iterate 3 (refine Av F ?_; intro A F)
 refine Zb F (d_alloc H rfl [iU 0, iU 0] zero_26) fun g5 A w F H => ?_
 refine Zs 0 [iU 0, iU 1] sz_26 F H fun A w F H => ?_
 refine Av F fun A F => ?_
 refine Nl kk (Sp fun _ kk => ?_)
 iterate 3 (refine Av F ?_; intro A F)
 refine Nl kk (Wr (ret1 F Tryz.results127 (res_tmp F rfl) ?_))
 exact ⟨_, rfl, rfl, H.pickN 4 2 [2, 3] []⟩
theorem cx26 (hbc1 : 16 ≤ c1) (H : Sx.Own w0 w (Bt g1 [sL g2 2 14 (c1 - 1 - 1), bF] :: Bt g2 L159 :: bs) rs K) : Cq 129 #[pT g1 0, iI 8] w fun x w' => ∃ g3 c2 : Nat, 8 ≤ c2 ∧ x = sL g3 0 8 c2 ∧ Sx.Own w0 w' (Bt g1 [sL g2 10 6 (c1 - 1 - 1 - 8), bF] :: Bt g2 L159 :: bs) (⟨true, sL g3 0 8 c2, 5, 1, 8, L153⟩ :: rs) K := by
 refine En Tryz.func129 Tryz.ntmps129 fun A F => ?_
 refine Sp fun _ kk => Av F fun A F => ?_
 refine Nl kk (Sx.seq fun K2 hK2 => Sp fun _ kk => ?_)
 iterate 4 (refine Av F ?_; intro A F)
 refine Zv F (d_lenS el_66 F rfl rfl) fun A F => ?_
 iterate 2 (refine Av F ?_; intro A F)
 refine Nl kk (condF F rfl (wp_skip (hK2 _ _ (Sp fun _ kk => ?_))))
 iterate 5 (refine Av F ?_; intro A F)
 refine Zv F (d_sliceH (h := 8) el_66 F rfl rfl rfl rfl (by omega)) fun A F => ?_
 refine Av F fun A F => ?_
 refine Nl kk (Sp fun _ kk => ?_)
 iterate 6 (refine Av F ?_; intro A F)
 refine Zv F (d_sliceL' (l := 8) el_66 F rfl rfl rfl rfl (by omega) (by omega)) fun A F => ?_
 iterate 2 (refine Av F ?_; intro A F)
 refine Zs 0 [sL g2 10 6 (c1 - 1 - 1 - 8), bF] sz_66 F H fun A w F H => ?_
 refine Nl kk (Sp fun _ kk => Av F fun A F => ?_)
 have H := Sx.Own.nilR H 5 1
 refine Zr (mk := fun v => v) F (d_appendW (i := 0) (news := L153) el_66 F H rfl rfl rfl rfl rfl (fun j u hu => Sx.box_part (news := L153) (H.box 1 g2 _ rfl).1 rfl j u hu) rfl rfl (by decide) (by decide)) fun v1 A w F H => ?_
 obtain ⟨g3, c2, rfl, hbc2, hdc2⟩ := H.open (i := 0) rfl (by decide)
 refine Av F fun A F => ?_
 refine Nl kk (Wr (ret1 F Tryz.results129 (res_tmp F rfl) ?_))
 exact ⟨_, rfl, g3, c2, (by omega), rfl, H.pickN 2 1 [0, 1] [0]⟩
theorem cx27 (hbc1 : 16 ≤ c1) (H : Sx.Own w0 w (Bt g1 [sL g2 2 14 (c1 - 1 - 1), bF] :: Bt g2 L159 :: bs) rs K) : Cr 127 #[pT g1 0, iI 8] w0 w (iU 0) (Bt g1 [sL g2 10 6 (c1 - 1 - 1 - 8), bF] :: Bt g2 L159 :: bs) rs K := by
 refine En Tryz.func127 Tryz.ntmps127 fun A F => ?_
 refine Sp fun _ kk => Av F fun A F => ?_
 refine Nl kk (Sp fun _ kk => Zr (mk := fun v => v) F (d_make (m := 16) Sx.undU8 Sx.infU8 rfl F H rfl rfl rfl (by decide) (by decide)) fun v1 A w F H => ?_)
 have H := H.xs (i := 0) (ys := L150) rfl (by kernel_rfl)
 obtain ⟨g3, c2, rfl, hbc2, hdc2⟩ := H.open (i := 0) rfl (by decide)
 refine Av F fun A F => ?_
 refine Nl kk (Sp fun _ kk => ?_)
 iterate 3 (refine Av F ?_; intro A F)
 refine Zx F (Do if_129 F (cx26 (by omega) H)) ?_
 rintro _ w ⟨g4, c3, hbc3, rfl, H⟩ A F
 have H := H.rowBox (i := 1) rfl
 refine Zx F (d_copyB (i := 0) (cs := L153) (us := L150) (m := 8) (el_66).1 (by kernel_rfl) F H rfl rfl rfl rfl (by decide) (fun j u hu => Sx.box_part (news := L153) ((H.rowBox (i := 0) rfl).box 0 g4 _ rfl).1 rfl j u hu) rfl rfl (Nat.le_of_ble_eq_true rfl) rfl) ?_
 rintro _ w ⟨rfl, H⟩ A F
 have H : Sx.Own w0 w (Bt g3 L150 :: Bt g1 [sL g2 10 6 (c1 - 1 - 1 - 8), bF] :: Bt g2 L159 :: bs) (⟨true, sL g4 0 8 c3, 5, 1, 8, L153⟩ :: ⟨false, undef, 5, 1, 0, []⟩ :: rs) K := H
 refine Nl kk (Sp fun _ kk => Av F fun A F => ?_)
 refine Zw F (d_call (vs := [sL g3 0 16 c2]) (v := L160) if_144 F H rfl rfl (Calls.val (Sx.take_box [0, 0, 0, 0, 0, 0, 0, 0, 0, 0, 0, 0, 0, 0, 0, 0] 0#128 rfl (by decide +kernel) (by decide) (H.box 0 g3 _ rfl).1 rfl) rfl (by kernel_rfl))) fun A w F H => ?_
 iterate 3 (refine Av F ?_; intro A F)
 refine Zb F (d_alloc H rfl [iU 0, iU 0] zero_26) fun g5 A w F H => ?_
 refine Zs 0 [iU 0, iU 0] sz_26 F H fun A w F H => ?_
 refine Av F fun A F => ?_
 refine Nl kk (Sp fun _ kk => ?_)
 iterate 3 (refine Av F ?_; intro A F)
 refine Nl kk (Wr (ret1 F Tryz.results127 (res_tmp F rfl) ?_))
 exact ⟨_, rfl, rfl, H.pickN 4 2 [2, 3] []⟩
theorem cx28 (hbc1 : 16 ≤ c1) (H : Sx.Own w0 w (Bt g1 [iI 0] :: Bt g2 [pT g4 0] :: Bt g4 [sL g5 10 6 (c1 - 1 - 1 - 8), bF] :: bs) rs K) : CallsD Tryz.prog 126 #[pT g1 0, pT g2 0, pT g3 0] .returning w fun e u' w' => u' = .returning ∧ ∃ x, e = .returned x ∧ x = .tuple #[] ∧ Sx.Own w0 w' (Bt g1 [iI 0] :: Bt g2 [pT g4 0] :: Bt g4 [sL g5 10 6 (c1 - 1 - 1 - 8), bF] :: bs) rs K := by
 refine Sx.enterDD (args := [pT g1 0, pT g2 0, pT g3 0]) Tryz.func126 rfl Tryz.ntmps126 (Nat.le_of_ble_eq_true rfl) (fun A F => ?_)
 refine Sx.seq fun K1 hK1 => Sp fun _ kk => ?_
 iterate 8 (refine Av F ?_; intro A F)
 refine Nl kk (condF F rfl (wp_skip (hK1 _ _ (Sp fun _ kk => ?_))))
 iterate 2 (refine Av F ?_; intro A F)
 refine Nl kk (condF F rfl (wp_skip ?_))
 try dsimp only [Exit.then, Exit.inBlock, Exit.jump, Exit.noGoto]
 refine Sx.end0 F Tryz.results126 ?_
 exact ⟨_, rfl, rfl, H.pickN 3 0 [0, 1, 2] []⟩
theorem cx29 (hbc1 : 16 ≤ c1) (H : Sx.Own w0 w (Bt g1 [sL g2 0 16 c1, bF] :: bs) (⟨true, sL g2 0 16 c1, 5, 1, 16, L159⟩ :: rs) K) : Cr 91 #[pT g1 0] w0 w (.tuple #[L144, iI 0]) (Bt g1 [sL g2 10 6 (c1 - 1 - 1 - 8), bF] :: Bt g2 L159 :: bs) rs K := by
 refine Sx.enterD (args := [pT g1 0]) Tryz.func91 rfl Tryz.ntmps91 (Nat.le_of_ble_eq_true rfl) (fun A F => ?_)
 refine Sp fun _ kk => Zb F (d_box F H rfl rfl [pT g1 0] rfl) fun g3 A w F H => ?_
 refine Zb F (d_alloc H rfl L146 zero_71) fun g4 A w F H => ?_
 refine Zb F (d_alloc H rfl [iI 0] zero_37) fun g5 A w F H => ?_
 refine Nl kk (Sp fun _ kk => Zv F (d_mkFunc (fv := []) (cv := [pT g5 0, pT g3 0, pT g4 0]) F rfl rfl rfl) fun A F => ?_)
 refine Sx.sDefer (fv := []) (vs := []) (cv := [pT g5 0, pT g3 0, pT g4 0]) F rfl rfl rfl (wanted_none rfl _) rfl ?_
 intro A F
 refine Nl kk (Sp fun _ kk => Av F fun A F => ?_)
 have H := H.pickN 4 1 [3, 0, 1, 2] [0]
 refine Zx F (Do if_127 F (cx22 (by omega) H)) ?_
 rintro _ w ⟨rfl, H⟩ A F
 refine Zv F (d_conv (v := iI 0) F rfl rfl (by kernel_rfl)) fun A F => ?_
 refine Av F fun A F => ?_
 refine Zs 3 L146 sz_3 F H fun A w F H => ?_
 refine Nl kk (Sx.seq fun K4 hK4 => Sp fun _ kk => Av F fun A F => ?_)
 refine Zx F (Do if_86 F (cx23 H)) ?_
 rintro _ w ⟨rfl, H⟩ A F
 iterate 3 (refine Av F ?_; intro A F)
 refine Zb F (d_alloc H rfl L146 zero_71) fun g6 A w F H => ?_
 refine Zs 0 L146 sz_71 F H fun A w F H => ?_
 refine Av F fun A F => ?_
 refine Nl kk (Sp fun _ kk => Av F fun A F => ?_)
 refine Zv F (d_un (v := bF) F rfl rfl rfl) fun A F => ?_
 refine Nl kk (condF F rfl (wp_skip (hK4 _ _ (Sp fun _ kk => Zv F (d_mkFunc (fv := []) (cv := [pT g3 0, pT g4 0]) F rfl rfl rfl) fun A F => ?_))))
 refine Av F fun A F => ?_
 refine Nl kk (Sx.seq fun K8 hK8 => Sp fun _ kk => ?_)
 iterate 2 (refine Av F ?_; intro A F)
 refine Nl kk (wp_block (Sp fun _ kk => ?_))
 iterate 2 (refine Av F ?_; intro A F)
 refine Nl kk (condT F rfl ?_)
 have F := F.tq [(1, pT g3 0), (2, pT g4 0), (3, pT g5 0), (6, .func (.func 128) #[] #[pT g3 0, pT g4 0]), (23, iI 0)] rfl
 have H := H.pickN 6 0 [1, 2, 3, 4, 5] []
 refine Dn F [some (pT g1 0), some (iU 1), some (iI 1), some (pT g1 0), some (iU 0), some (pT g4 3), none, some (pT g4 4), none] (fun L A w => Sx.Own w0 w (Bt g1 (cond (L 4) [sL g2 10 6 (c1 - 1 - 1 - 8), bF] (cond (L 1) [sL g2 2 14 (c1 - 1 - 1), bF] [sL g2 1 15 (c1 - 1), bF])) :: Bt g2 L159 :: Bt g5 [iI 0] :: Bt g4 (cond (L 6) L145 L146) :: Bt g3 [pT g1 0] :: bs) rs K) (H.drew.padG [] [] rfl rfl) ?_ ?_
 ·refine ⟨?_, ?_, ?_, ?_, ?_, ?_, ?_, ?_, ?_, trivial⟩
  ·exact SV (fun _ _ _ F H => Ld 4 one_172 F H)
  ·intro L A w up hun hd F H
   have f1 : L 1 = false := hun
   have f4 : L 4 = false := up 4 1 rfl hun
   have f6 : L 6 = false := up 6 1 rfl hun
   rw [f1, f4, f6] at H
   have H : Sx.Own w0 w (Bt g1 [sL g2 1 15 (c1 - 1), bF] :: Bt g2 L159 :: Bt g5 [iI 0] :: Bt g4 L146 :: Bt g3 [pT g1 0] :: bs) rs K := H
   refine step_on rfl (Do if_127 F (cx25 (by omega) H)) ?_
   rintro xv w' ⟨hx, H⟩
   exact ⟨Cs hx, (by show Sx.Own _ _ _ _ _; rw [show Inv.add L 1 4 = false from f4, show Inv.add L 1 6 = false from f6]; exact H)⟩
  ·exact SV (fun _ _ _ F _ => d_conv (v := iI 1) F rfl rfl (by kernel_rfl))
  ·exact SV (fun _ _ _ F H => Ld 4 one_172 F H)
  ·intro L A w up hun hd F H
   have t1 : L 1 = true := hd 1 rfl
   have f4 : L 4 = false := hun
   have f6 : L 6 = false := up 6 4 rfl hun
   rw [t1, f4, f6] at H
   have H : Sx.Own w0 w (Bt g1 [sL g2 2 14 (c1 - 1 - 1), bF] :: Bt g2 L159 :: Bt g5 [iI 0] :: Bt g4 L146 :: Bt g3 [pT g1 0] :: bs) rs K := H
   refine step_on rfl (Do if_127 F (cx27 (by omega) H)) ?_
   rintro xv w' ⟨hx, H⟩
   exact ⟨Cs hx, (by show Sx.Own _ _ _ _ _; rw [show Inv.add L 4 1 = true from t1, show Inv.add L 4 6 = false from f6]; exact H)⟩
  ·exact Sa
  ·intro L A w up hun hd F H
   have t1 : L 1 = true := hd 1 rfl
   have t4 : L 4 = true := hd 4 rfl
   have f6 : L 6 = false := hun
   rw [t1, t4, f6] at H
   refine step_on rfl (d_store (i := 3) (xs := [iI 1]) (us := L145) sz_3 F H rfl rfl rfl rfl rfl rfl rfl (Nat.le_of_ble_eq_true rfl) rfl) ?_
   intro xv w' H
   exact ⟨Cn, (by show Sx.Own _ _ _ _ _; rw [show Inv.add L 6 1 = true from t1, show Inv.add L 6 4 = true from t4]; exact H)⟩
  ·exact Sa
  ·intro L A w up hun hd F H
   have t1 : L 1 = true := hd 1 rfl
   have t4 : L 4 = true := hd 4 rfl
   have t6 : L 6 = true := hd 6 rfl
   rw [t1, t4, t6] at H
   refine step_on rfl (d_store (i := 3) (xs := [iU 0]) (us := L145) sz_22 F H rfl rfl rfl rfl rfl rfl rfl (Nat.le_of_ble_eq_true rfl) rfl) ?_
   intro xv w' H
   exact ⟨Cn, (by show Sx.Own _ _ _ _ _; rw [show Inv.add L 8 1 = true from t1, show Inv.add L 8 4 = true from t4, show Inv.add L 8 6 = true from t6]; exact H)⟩
 ·intro L A w hL F H
  have t1 : L 1 = true := hL 1 rfl
  have t4 : L 4 = true := hL 4 rfl
  have t6 : L 6 = true := hL 6 rfl
  rw [t1, t4, t6] at H
  have H := H.pickN 5 0 [0, 1, 2, 3, 4] []
  have F := F.tq [(1, pT g3 0), (2, pT g4 0), (3, pT g5 0), (6, .func (.func 128) #[] #[pT g3 0, pT g4 0]), (23, iI 0)] rfl
  refine hK8 _ _ (Sp fun _ kk => Av F fun A F => ?_)
  refine Zs 3 L145 sz_71 F H fun A w F H => ?_
  refine Zs 2 [iI 0] sz_37 F H fun A w F H => ?_
  refine Nl kk (wp_ret ?_)
  try dsimp only [Exit.then, Exit.inBlock, Exit.jump, Exit.noGoto]
  have H := H.pickN 5 0 [2, 4, 0, 1, 3] []
  refine Sx.leave1 (fv := []) (vs := []) (cv := [pT g5 0, pT g3 0, pT g4 0]) F if_126 (cx28 (by omega) H) ?_
  rintro _ w ⟨rfl, H⟩
  refine ⟨_, Sx.res2 Tryz.results91 (res_row (i := 4) (xs := L145) rw_71 F H rfl rfl rfl rfl) (res_one (i := 0) (v := iI 0) one_37 F H rfl rfl rfl), ?_⟩
  exact ⟨_, rfl, rfl, H.pickN 5 0 [2, 3] []⟩
abbrev L161 (x0 x1 : Nat) : List Value := [sL x0 11 5 (x1 - 1 - 1 - 8 - 1), bF]
theorem cx30 (hbc1 : 16 ≤ c1) (H : Sx.Own w0 w (Bt g1 [sL g2 10 6 (c1 - 1 - 1 - 8), bF] :: Bt g2 L159 :: bs) rs K) : Cq 129 #[pT g1 0, iI 1] w fun x w' => ∃ g3 c2 : Nat, 1 ≤ c2 ∧ x = sL g3 0 1 c2 ∧ Sx.Own w0 w' (Bt g1 (L161 g2 c1) :: Bt g2 L159 :: bs) (⟨true, sL g3 0 1 c2, 5, 1, 1, [iB 1]⟩ :: rs) K := by
 refine En Tryz.func129 Tryz.ntmps129 fun A F => ?_
 refine Sp fun _ kk => Av F fun A F => ?_
 refine Nl kk (Sx.seq fun K2 hK2 => Sp fun _ kk => ?_)
 iterate 4 (refine Av F ?_; intro A F)
 refine Zv F (d_lenS el_66 F rfl rfl) fun A F => ?_
 iterate 2 (refine Av F ?_; intro A F)
 refine Nl kk (condF F rfl (wp_skip (hK2 _ _ (Sp fun _ kk => ?_))))
 iterate 5 (refine Av F ?_; intro A F)
 refine Zv F (d_sliceH (h := 1) el_66 F rfl rfl rfl rfl (by omega)) fun A F => ?_
 refine Av F fun A F => ?_
 refine Nl kk (Sp fun _ kk => ?_)
 iterate 6 (refine Av F ?_; intro A F)
 refine Zv F (d_sliceL' (l := 1) el_66 F rfl rfl rfl rfl (by omega) (by omega)) fun A F => ?_
 iterate 2 (refine Av F ?_; intro A F)
 refine Zs 0 (L161 g2 c1) sz_66 F H fun A w F H => ?_
 refine Nl kk (Sp fun _ kk => Av F fun A F => ?_)
 have H := Sx.Own.nilR H 5 1
 refine Zr (mk := fun v => v) F (d_appendW (i := 0) (news := [iB 1]) el_66 F H rfl rfl rfl rfl rfl (fun j u hu => Sx.box_part (news := [iB 1]) (H.box 1 g2 _ rfl).1 rfl j u hu) rfl rfl (by decide) (by decide)) fun v1 A w F H => ?_
 obtain ⟨g3, c2, rfl, hbc2, hdc2⟩ := H.open (i := 0) rfl (by decide)
 refine Av F fun A F => ?_
 refine Nl kk (Wr (ret1 F Tryz.results129 (res_tmp F rfl) ?_))
 exact ⟨_, rfl, g3, c2, (by omega), rfl, H.pickN 2 1 [0, 1] [0]⟩
theorem cx31 (hbc1 : 16 ≤ c1) (H : Sx.Own w0 w (Bt g1 [sL g2 10 6 (c1 - 1 - 1 - 8), bF] :: Bt g2 L159 :: bs) rs K) : Cr 127 #[pT g1 0, iI 1] w0 w (iU 1) (Bt g1 (L161 g2 c1) :: Bt g2 L159 :: bs) rs K := by
 refine En Tryz.func127 Tryz.ntmps127 fun A F => ?_
 refine Sp fun _ kk => Av F fun A F => ?_
 refine Nl kk (Sp fun _ kk => Zr (mk := fun v => v) F (d_make (m := 16) Sx.undU8 Sx.infU8 rfl F H rfl rfl rfl (by decide) (by decide)) fun v1 A w F H => ?_)
 have H := H.xs (i := 0) (ys := L150) rfl (by kernel_rfl)
 obtain ⟨g3, c2, rfl, hbc2, hdc2⟩ := H.open (i := 0) rfl (by decide)
 refine Av F fun A F => ?_
 refine Nl kk (Sp fun _ kk => ?_)
 iterate 3 (refine Av F ?_; intro A F)
 refine Zx F (Do if_129 F (cx30 (by omega) H)) ?_
 rintro _ w ⟨g4, c3, hbc3, rfl, H⟩ A F
 have H := H.rowBox (i := 1) rfl
 refine Zx F (d_copyB (i := 0) (cs := [iB 1]) (us := L149) (m := 1) (el_66).1 (by kernel_rfl) F H rfl rfl rfl rfl (by decide) (fun j u hu => Sx.box_part (news := [iB 1]) ((H.rowBox (i := 0) rfl).box 0 g4 _ rfl).1 rfl j u hu) rfl rfl (Nat.le_of_ble_eq_true rfl) rfl) ?_
 rintro _ w ⟨rfl, H⟩ A F
 have H : Sx.Own w0 w (Bt g3 L149 :: Bt g1 (L161 g2 c1) :: Bt g2 L159 :: bs) (⟨true, sL g4 0 1 c3, 5, 1, 1, [iB 1]⟩ :: ⟨false, undef, 5, 1, 0, []⟩ :: rs) K := H
 refine Nl kk (Sp fun _ kk => Av F fun A F => ?_)
 refine Zw F (d_call (vs := [sL g3 0 16 c2]) (v := .tuple #[.agg #[iU 0, iU 1], iI 0]) if_144 F H rfl rfl (Calls.val (Sx.take_box [1, 0, 0, 0, 0, 0, 0, 0, 0, 0, 0, 0, 0, 0, 0, 0] 1#128 rfl (by decide +kernel) (by decide) (H.box 0 g3 _ rfl).1 rfl) rfl (by kernel_rfl))) fun A w F H => ?_
 iterate 3 (refine Av F ?_; intro A F)
 refine Zb F (d_alloc H rfl [iU 0, iU 0] zero_26) fun g5 A w F H => ?_
 refine Zs 0 [iU 0, iU 1] sz_26 F H fun A w F H => ?_
 refine Av F fun A F => ?_
 refine Nl kk (Sp fun _ kk => ?_)
 iterate 3 (refine Av F ?_; intro A F)
 refine Nl kk (Wr (ret1 F Tryz.results127 (res_tmp F rfl) ?_))
 exact ⟨_, rfl, rfl, H.pickN 4 2 [2, 3] []⟩
abbrev L162 (x0 x1 : Nat) : List Value := [sL x0 13 3 (x1 - 1 - 1 - 8 - 1 - 2), bF]
theorem cx32 (hbc1 : 16 ≤ c1) (H : Sx.Own w0 w (Bt g1 (L161 g2 c1) :: Bt g2 L159 :: bs) rs K) : Cq 129 #[pT g1 0, iI 2] w fun x w' => ∃ g3 c2 : Nat, 2 ≤ c2 ∧ x = sL g3 0 2 c2 ∧ Sx.Own w0 w' (Bt g1 (L162 g2 c1) :: Bt g2 L159 :: bs) (⟨true, sL g3 0 2 c2, 5, 1, 2, [iB 0, iB 0]⟩ :: rs) K := by
 refine En Tryz.func129 Tryz.ntmps129 fun A F => ?_
 refine Sp fun _ kk => Av F fun A F => ?_
 refine Nl kk (Sx.seq fun K2 hK2 => Sp fun _ kk => ?_)
 iterate 4 (refine Av F ?_; intro A F)
 refine Zv F (d_lenS el_66 F rfl rfl) fun A F => ?_
 iterate 2 (refine Av F ?_; intro A F)
 refine Nl kk (condF F rfl (wp_skip (hK2 _ _ (Sp fun _ kk => ?_))))
 iterate 5 (refine Av F ?_; intro A F)
 refine Zv F (d_sliceH (h := 2) el_66 F rfl rfl rfl rfl (by omega)) fun A F => ?_
 refine Av F fun A F => ?_
 refine Nl kk (Sp fun _ kk => ?_)
 iterate 6 (refine Av F ?_; intro A F)
 refine Zv F (d_sliceL' (l := 2) el_66 F rfl rfl rfl rfl (by omega) (by omega)) fun A F => ?_
 iterate 2 (refine Av F ?_; intro A F)
 refine Zs 0 (L162 g2 c1) sz_66 F H fun A w F H => ?_
 refine Nl kk (Sp fun _ kk => Av F fun A F => ?_)
 have H := Sx.Own.nilR H 5 1
 refine Zr (mk := fun v => v) F (d_appendW (i := 0) (news := [iB 0, iB 0]) el_66 F H rfl rfl rfl rfl rfl (fun j u hu => Sx.box_part (news := [iB 0, iB 0]) (H.box 1 g2 _ rfl).1 rfl j u hu) rfl rfl (by decide) (by decide)) fun v1 A w F H => ?_
 obtain ⟨g3, c2, rfl, hbc2, hdc2⟩ := H.open (i := 0) rfl (by decide)
 refine Av F fun A F => ?_
 refine Nl kk (Wr (ret1 F Tryz.results129 (res_tmp F rfl) ?_))
 exact ⟨_, rfl, g3, c2, (by omega), rfl, H.pickN 2 1 [0, 1] [0]⟩
theorem cx33 (hbc1 : 16 ≤ c1) (H : Sx.Own w0 w (Bt g1 (L161 g2 c1) :: Bt g2 L159 :: bs) rs K) : Cr 127 #[pT g1 0, iI 2] w0 w (iU 0) (Bt g1 (L162 g2 c1) :: Bt g2 L159 :: bs) rs K := by
 refine En Tryz.func127 Tryz.ntmps127 fun A F => ?_
 refine Sp fun _ kk => Av F fun A F => ?_
 refine Nl kk (Sp fun _ kk => Zr (mk := fun v => v) F (d_make (m := 16) Sx.undU8 Sx.infU8 rfl F H rfl rfl rfl (by decide) (by decide)) fun v1 A w F H => ?_)
 have H := H.xs (i := 0) (ys := L150) rfl (by kernel_rfl)
 obtain ⟨g3, c2, rfl, hbc2, hdc2⟩ := H.open (i := 0) rfl (by decide)
 refine Av F fun A F => ?_
 refine Nl kk (Sp fun _ kk => ?_)
 iterate 3 (refine Av F ?_; intro A F)
 refine Zx F (Do if_129 F (cx32 (by omega) H)) ?_
 rintro _ w ⟨g4, c3, hbc3, rfl, H⟩ A F
 have H := H.rowBox (i := 1) rfl
 refine Zx F (d_copyB (i := 0) (cs := [iB 0, iB 0]) (us := L150) (m := 2) (el_66).1 (by kernel_rfl) F H rfl rfl rfl rfl (by decide) (fun j u hu => Sx.box_part (news := [iB 0, iB 0]) ((H.rowBox (i := 0) rfl).box 0 g4 _ rfl).1 rfl j u hu) rfl rfl (Nat.le_of_ble_eq_true rfl) rfl) ?_
 rintro _ w ⟨rfl, H⟩ A F
 have H : Sx.Own w0 w (Bt g3 L150 :: Bt g1 (L162 g2 c1) :: Bt g2 L159 :: bs) (⟨true, sL g4 0 2 c3, 5, 1, 2, [iB 0, iB 0]⟩ :: ⟨false, undef, 5, 1, 0, []⟩ :: rs) K := H
 refine Nl kk (Sp fun _ kk => Av F fun A F => ?_)
 refine Zw F (d_call (vs := [sL g3 0 16 c2]) (v := L160) if_144 F H rfl rfl (Calls.val (Sx.take_box [0, 0, 0, 0, 0, 0, 0, 0, 0, 0, 0, 0, 0, 0, 0, 0] 0#128 rfl (by decide +kernel) (by decide) (H.box 0 g3 _ rfl).1 rfl) rfl (by kernel_rfl))) fun A w F H => ?_
 iterate 3 (refine Av F ?_; intro A F)
 refine Zb F (d_alloc H rfl [iU 0, iU 0] zero_26) fun g5 A w F H => ?_
 refine Zs 0 [iU 0, iU 0] sz_26 F H fun A w F H => ?_
 refine Av F fun A F => ?_
 refine Nl kk (Sp fun _ kk => ?_)
 iterate 3 (refine Av F ?_; intro A F)
 refine Nl kk (Wr (ret1 F Tryz.results127 (res_tmp F rfl) ?_))
 exact ⟨_, rfl, rfl, H.pickN 4 2 [2, 3] []⟩
theorem cx34 (hbc1 : 16 ≤ c1) (H : Sx.Own w0 w (Bt g1 [pT g3 0] :: Bt g2 L155 :: Bt g3 (L161 g4 c1) :: Bt g4 L159 :: bs) rs K) : Cr 128 #[pT g1 0, pT g2 0] w0 w (.tuple #[]) (Bt g1 [pT g3 0] :: Bt g2 L155 :: Bt g3 (L162 g4 c1) :: Bt g4 L159 :: bs) rs K := by
 refine En Tryz.func128 Tryz.ntmps128 fun A F => ?_
 refine Sx.plain ?_
 refine Av F fun A F => ?_
 have H := H.pickN 4 0 [2, 3, 0, 1] []
 refine Zx F (Do if_127 F (cx33 (by omega) H)) ?_
 rintro _ w ⟨rfl, H⟩ A F
 refine Zv F (d_conv (v := iI 0) F rfl rfl (by kernel_rfl)) fun A F => ?_
 refine Av F fun A F => ?_
 refine Zs 3 L155 sz_3 F H fun A w F H => ?_
 refine Sx.nil ?_
 try dsimp only [Exit.then, Exit.inBlock, Exit.jump, Exit.noGoto]
 refine Sx.end0 F Tryz.results128 ?_
 exact ⟨_, rfl, rfl, H.pickN 4 0 [2, 3, 0, 1] []⟩
theorem cx35 (hbc1 : 16 ≤ c1) (H : Sx.Own w0 w (Bt g1 [iI 0] :: Bt g2 [pT g4 0] :: Bt g4 (L162 g5 c1) :: bs) rs K) : CallsD Tryz.prog 126 #[pT g1 0, pT g2 0, pT g3 0] .returning w fun e u' w' => u' = .returning ∧ ∃ x, e = .returned x ∧ x = .tuple #[] ∧ Sx.Own w0 w' (Bt g1 [iI 0] :: Bt g2 [pT g4 0] :: Bt g4 (L162 g5 c1) :: bs) rs K := by
 refine Sx.enterDD (args := [pT g1 0, pT g2 0, pT g3 0]) Tryz.func126 rfl Tryz.ntmps126 (Nat.le_of_ble_eq_true rfl) (fun A F => ?_)
 refine Sx.seq fun K1 hK1 => Sp fun _ kk => ?_
 iterate 8 (refine Av F ?_; intro A F)
 refine Nl kk (condF F rfl (wp_skip (hK1 _ _ (Sp fun _ kk => ?_))))
 iterate 2 (refine Av F ?_; intro A F)
 refine Nl kk (condF F rfl (wp_skip ?_))
 try dsimp only [Exit.then, Exit.inBlock, Exit.jump, Exit.noGoto]
 refine Sx.end0 F Tryz.results126 ?_
 exact ⟨_, rfl, rfl, H.pickN 3 0 [0, 1, 2] []⟩
theorem cx36 (hbc1 : 16 ≤ c1) (H : Sx.Own w0 w (Bt g1 [sL g2 10 6 (c1 - 1 - 1 - 8), bF] :: Bt g2 L159 :: bs) rs K) : Cr 91 #[pT g1 0] w0 w (.tuple #[L154, iI 0]) (Bt g1 (L162 g2 c1) :: Bt g2 L159 :: bs) rs K := by
 refine Sx.enterD (args := [pT g1 0]) Tryz.func91 rfl Tryz.ntmps91 (Nat.le_of_ble_eq_true rfl) (fun A F => ?_)
 refine Sp fun _ kk => Zb F (d_box F H rfl rfl [pT g1 0] rfl) fun g3 A w F H => ?_
 refine Zb F (d_alloc H rfl L146 zero_71) fun g4 A w F H => ?_
 refine Zb F (d_alloc H rfl [iI 0] zero_37) fun g5 A w F H => ?_
 refine Nl kk (Sp fun _ kk => Zv F (d_mkFunc (fv := []) (cv := [pT g5 0, pT g3 0, pT g4 0]) F rfl rfl rfl) fun A F => ?_)
 refine Sx.sDefer (fv := []) (vs := []) (cv := [pT g5 0, pT g3 0, pT g4 0]) F rfl rfl rfl (wanted_none rfl _) rfl ?_
 intro A F
 refine Nl kk (Sp fun _ kk => Av F fun A F => ?_)
 have H := H.pickN 5 0 [3, 4, 0, 1, 2] []
 refine Zx F (Do if_127 F (cx31 (by omega) H)) ?_
 rintro _ w ⟨rfl, H⟩ A F
 refine Zv F (d_conv (v := iI 1) F rfl rfl (by kernel_rfl)) fun A F => ?_
 refine Av F fun A F => ?_
 refine Zs 3 L155 sz_3 F H fun A w F H => ?_
 refine Nl kk (Sx.seq fun K4 hK4 => Sp fun _ kk => Av F fun A F => ?_)
 refine Zx F (Do if_86 F (cx10 H)) ?_
 rintro _ w ⟨rfl, H⟩ A F
 iterate 3 (refine Av F ?_; intro A F)
 refine Zb F (d_alloc H rfl L146 zero_71) fun g6 A w F H => ?_
 refine Zs 0 L155 sz_71 F H fun A w F H => ?_
 refine Av F fun A F => ?_
 refine Nl kk (Sp fun _ kk => Av F fun A F => ?_)
 refine Zv F (d_un (v := bF) F rfl rfl rfl) fun A F => ?_
 refine Nl kk (condF F rfl (wp_skip (hK4 _ _ (Sp fun _ kk => Zv F (d_mkFunc (fv := []) (cv := [pT g3 0, pT g4 0]) F rfl rfl rfl) fun A F => ?_))))
 refine Av F fun A F => ?_
 refine Nl kk (Sx.seq fun K8 hK8 => Sp fun _ kk => ?_)
 iterate 2 (refine Av F ?_; intro A F)
 refine Nl kk (wp_block (Sp fun _ kk => ?_))
 iterate 2 (refine Av F ?_; intro A F)
 refine Nl kk (condF F rfl (Sx.seq fun K11 hK11 => Sp fun _ kk => ?_))
 iterate 2 (refine Av F ?_; intro A F)
 refine Nl kk (condT F rfl (wp_skip (hK11 _ _ (condT F rfl (Sx.plain ?_)))))
 refine Av F fun A F => ?_
 have H := H.pickN 6 0 [5, 4, 1, 2, 0, 3] []
 refine Zx F (d_callCO (fv := []) (vs := []) (cv := [pT g3 0, pT g4 0]) if_128 F rfl rfl rfl (cx34 (by omega) H)) ?_
 rintro _ w ⟨rfl, H⟩ A F
 refine Sx.nil (hK8 _ _ (Sp fun _ kk => Av F fun A F => ?_))
 refine Zs 1 L155 sz_71 F H fun A w F H => ?_
 refine Zs 5 [iI 0] sz_37 F H fun A w F H => ?_
 refine Nl kk (wp_ret ?_)
 try dsimp only [Exit.then, Exit.inBlock, Exit.jump, Exit.noGoto]
 have H := H.pickN 6 0 [5, 0, 2, 1, 3, 4] []
 refine Sx.leave1 (fv := []) (vs := []) (cv := [pT g5 0, pT g3 0, pT g4 0]) F if_126 (cx35 (by omega) H) ?_
 rintro _ w ⟨rfl, H⟩
 refine ⟨_, Sx.res2 Tryz.results91 (res_row (i := 3) (xs := L155) rw_71 F H rfl rfl rfl rfl) (res_one (i := 0) (v := iI 0) one_37 F H rfl rfl rfl), ?_⟩
 exact ⟨_, rfl, rfl, H.pickN 6 0 [2, 4] []⟩
abbrev L163 (x0 x1 : Nat) : List Value := [sL x0 14 2 (x1 - 1 - 1 - 8 - 1 - 2 - 1), bF]
theorem cx37 (hbc1 : 16 ≤ c1) (H : Sx.Own w0 w (Bt g1 (L162 g2 c1) :: Bt g2 L159 :: bs) rs K) : Cq 129 #[pT g1 0, iI 1] w fun x w' => ∃ g3 c2 : Nat, 1 ≤ c2 ∧ x = sL g3 0 1 c2 ∧ Sx.Own w0 w' (Bt g1 (L163 g2 c1) :: Bt g2 L159 :: bs) (⟨true, sL g3 0 1 c2, 5, 1, 1, [iB 3]⟩ :: rs) K := by
 refine En Tryz.func129 Tryz.ntmps129 fun A F => ?_
 refine Sp fun _ kk => Av F fun A F => ?_
 refine Nl kk (Sx.seq fun K2 hK2 => Sp fun _ kk => ?_)
 iterate 4 (refine Av F ?_; intro A F)
 refine Zv F (d_lenS el_66 F rfl rfl) fun A F => ?_
 iterate 2 (refine Av F ?_; intro A F)
 refine Nl kk (condF F rfl (wp_skip (hK2 _ _ (Sp fun _ kk => ?_))))
 iterate 5 (refine Av F ?_; intro A F)
 refine Zv F (d_sliceH (h := 1) el_66 F rfl rfl rfl rfl (by omega)) fun A F => ?_
 refine Av F fun A F => ?_
 refine Nl kk (Sp fun _ kk => ?_)
 iterate 6 (refine Av F ?_; intro A F)
 refine Zv F (d_sliceL' (l := 1) el_66 F rfl rfl rfl rfl (by omega) (by omega)) fun A F => ?_
 iterate 2 (refine Av F ?_; intro A F)
 refine Zs 0 (L163 g2 c1) sz_66 F H fun A w F H => ?_
 refine Nl kk (Sp fun _ kk => Av F fun A F => ?_)
 have H := Sx.Own.nilR H 5 1
 refine Zr (mk := fun v => v) F (d_appendW (i := 0) (news := [iB 3]) el_66 F H rfl rfl rfl rfl rfl (fun j u hu => Sx.box_part (news := [iB 3]) (H.box 1 g2 _ rfl).1 rfl j u hu) rfl rfl (by decide) (by decide)) fun v1 A w F H => ?_
 obtain ⟨g3, c2, rfl, hbc2, hdc2⟩ := H.open (i := 0) rfl (by decide)
 refine Av F fun A F => ?_
 refine Nl kk (Wr (ret1 F Tryz.results129 (res_tmp F rfl) ?_))
 exact ⟨_, rfl, g3, c2, (by omega), rfl, H.pickN 2 1 [0, 1] [0]⟩
abbrev L164 : List Value := [iB 3, iB 0, iB 0, iB 0, iB 0, iB 0, iB 0, iB 0, iB 0, iB 0, iB 0, iB 0, iB 0, iB 0, iB 0, iB 0]
theorem cx38 (hbc1 : 16 ≤ c1) (H : Sx.Own w0 w (Bt g1 (L162 g2 c1) :: Bt g2 L159 :: bs) rs K) : Cr 127 #[pT g1 0, iI 1] w0 w (iU 3) (Bt g1 (L163 g2 c1) :: Bt g2 L159 :: bs) rs K := by
 refine En Tryz.func127 Tryz.ntmps127 fun A F => ?_
 refine Sp fun _ kk => Av F fun A F => ?_
 refine Nl kk (Sp fun _ kk => Zr (mk := fun v => v) F (d_make (m := 16) Sx.undU8 Sx.infU8 rfl F H rfl rfl rfl (by decide) (by decide)) fun v1 A w F H => ?_)
 have H := H.xs (i := 0) (ys := L150) rfl (by kernel_rfl)
 obtain ⟨g3, c2, rfl, hbc2, hdc2⟩ := H.open (i := 0) rfl (by decide)
 refine Av F fun A F => ?_
 refine Nl kk (Sp fun _ kk => ?_)
 iterate 3 (refine Av F ?_; intro A F)
 refine Zx F (Do if_129 F (cx37 (by omega) H)) ?_
 rintro _ w ⟨g4, c3, hbc3, rfl, H⟩ A F
 have H := H.rowBox (i := 1) rfl
 refine Zx F (d_copyB (i := 0) (cs := [iB 3]) (us := L164) (m := 1) (el_66).1 (by kernel_rfl) F H rfl rfl rfl rfl (by decide) (fun j u hu => Sx.box_part (news := [iB 3]) ((H.rowBox (i := 0) rfl).box 0 g4 _ rfl).1 rfl j u hu) rfl rfl (Nat.le_of_ble_eq_true rfl) rfl) ?_
 rintro _ w ⟨rfl, H⟩ A F
 have H : Sx.Own w0 w (Bt g3 L164 :: Bt g1 (L163 g2 c1) :: Bt g2 L159 :: bs) (⟨true, sL g4 0 1 c3, 5, 1, 1, [iB 3]⟩ :: ⟨false, undef, 5, 1, 0, []⟩ :: rs) K := H
 refine Nl kk (Sp fun _ kk => Av F fun A F => ?_)
 refine Zw F (d_call (vs := [sL g3 0 16 c2]) (v := .tuple #[.agg #[iU 0, iU 3], iI 0]) if_144 F H rfl rfl (Calls.val (Sx.take_box [3, 0, 0, 0, 0, 0, 0, 0, 0, 0, 0, 0, 0, 0, 0, 0] 3#128 rfl (by decide +kernel) (by decide) (H.box 0 g3 _ rfl).1 rfl) rfl (by kernel_rfl))) fun A w F H => ?_
 iterate 3 (refine Av F ?_; intro A F)
 refine Zb F (d_alloc H rfl [iU 0, iU 0] zero_26) fun g5 A w F H => ?_
 refine Zs 0 [iU 0, iU 3] sz_26 F H fun A w F H => ?_
 refine Av F fun A F => ?_
 refine Nl kk (Sp fun _ kk => ?_)
 iterate 3 (refine Av F ?_; intro A F)
 refine Nl kk (Wr (ret1 F Tryz.results127 (res_tmp F rfl) ?_))
 exact ⟨_, rfl, rfl, H.pickN 4 2 [2, 3] []⟩
theorem cx39 (hbc1 : 16 ≤ c1) (H : Sx.Own w0 w (Bt g1 (L163 g2 c1) :: Bt g2 L159 :: bs) rs K) : Cq 129 #[pT g1 0, iI 2] w fun x w' => ∃ g3 c2 : Nat, 2 ≤ c2 ∧ x = sL g3 0 2 c2 ∧ Sx.Own w0 w' (Bt g1 [.slice (if (c1 - 1 - 1 - 8 - 1 - 2 - 1) = 2 then some ⟨g2, 14, none⟩ else some ⟨g2, 14 + 2 * 1, none⟩) 0 ((c1 - 1 - 1 - 8 - 1 - 2 - 1) - 2), bF] :: Bt g2 L159 :: bs) (⟨true, sL g3 0 2 c2, 5, 1, 2, [iB 0, iB 0]⟩ :: rs) K := by
 refine En Tryz.func129 Tryz.ntmps129 fun A F => ?_
 refine Sp fun _ kk => Av F fun A F => ?_
 refine Nl kk (Sx.seq fun K2 hK2 => Sp fun _ kk => ?_)
 iterate 4 (refine Av F ?_; intro A F)
 refine Zv F (d_lenS el_66 F rfl rfl) fun A F => ?_
 iterate 2 (refine Av F ?_; intro A F)
 refine Nl kk (condF F rfl (wp_skip (hK2 _ _ (Sp fun _ kk => ?_))))
 iterate 5 (refine Av F ?_; intro A F)
 refine Zv F (d_sliceH (h := 2) el_66 F rfl rfl rfl rfl (by omega)) fun A F => ?_
 refine Av F fun A F => ?_
 refine Nl kk (Sp fun _ kk => ?_)
 iterate 6 (refine Av F ?_; intro A F)
 refine Zv F (d_sliceL (l := 2) el_66 F rfl rfl rfl rfl (by omega)) fun A F => ?_
 iterate 2 (refine Av F ?_; intro A F)
 refine Zs 0 [.slice (if (c1 - 1 - 1 - 8 - 1 - 2 - 1) = 2 then some ⟨g2, 14, none⟩ else some ⟨g2, 14 + 2 * 1, none⟩) 0 ((c1 - 1 - 1 - 8 - 1 - 2 - 1) - 2), bF] sz_66 F H fun A w F H => ?_
 refine Nl kk (Sp fun _ kk => Av F fun A F => ?_)
 have H := Sx.Own.nilR H 5 1
 refine Zr (mk := fun v => v) F (d_appendW (i := 0) (news := [iB 0, iB 0]) el_66 F H rfl rfl rfl rfl rfl (fun j u hu => Sx.box_part (news := [iB 0, iB 0]) (H.box 1 g2 _ rfl).1 rfl j u hu) rfl rfl (by decide) (by decide)) fun v1 A w F H => ?_
 obtain ⟨g3, c2, rfl, hbc2, hdc2⟩ := H.open (i := 0) rfl (by decide)
 refine Av F fun A F => ?_
 refine Nl kk (Wr (ret1 F Tryz.results129 (res_tmp F rfl) ?_))
 exact ⟨_, rfl, g3, c2, (by omega), rfl, H.pickN 2 1 [0, 1] [0]⟩
theorem cx40 (hbc1 : 16 ≤ c1) (H : Sx.Own w0 w (Bt g1 (L163 g2 c1) :: Bt g2 L159 :: bs) rs K) : Cr 127 #[pT g1 0, iI 2] w0 w (iU 0) (Bt g1 [.slice (if (c1 - 1 - 1 - 8 - 1 - 2 - 1) = 2 then some ⟨g2, 14, none⟩ else some ⟨g2, 14 + 2 * 1, none⟩) 0 ((c1 - 1 - 1 - 8 - 1 - 2 - 1) - 2), bF] :: Bt g2 L159 :: bs) rs K := by
 refine En Tryz.func127 Tryz.ntmps127 fun A F => ?_
 refine Sp fun _ kk => Av F fun A F => ?_
 refine Nl kk (Sp fun _ kk => Zr (mk := fun v => v) F (d_make (m := 16) Sx.undU8 Sx.infU8 rfl F H rfl rfl rfl (by decide) (by decide)) fun v1 A w F H => ?_)
 have H := H.xs (i := 0) (ys := L150) rfl (by kernel_rfl)
 obtain ⟨g3, c2, rfl, hbc2, hdc2⟩ := H.open (i := 0) rfl (by decide)
 refine Av F fun A F => ?_
 refine Nl kk (Sp fun _ kk => ?_)
 iterate 3 (refine Av F ?_; intro A F)
 refine Zx F (Do if_129 F (cx39 (by omega) H)) ?_
 rintro _ w ⟨g4, c3, hbc3, rfl, H⟩ A F
 have H := H.rowBox (i := 1) rfl
 refine Zx F (d_copyB (i := 0) (cs := [iB 0, iB 0]) (us := L150) (m := 2) (el_66).1 (by kernel_rfl) F H rfl rfl rfl rfl (by decide) (fun j u hu => Sx.box_part (news := [iB 0, iB 0]) ((H.rowBox (i := 0) rfl).box 0 g4 _ rfl).1 rfl j u hu) rfl rfl (Nat.le_of_ble_eq_true rfl) rfl) ?_
 rintro _ w ⟨rfl, H⟩ A F
 have H : Sx.Own w0 w (Bt g3 L150 :: Bt g1 [.slice (if (c1 - 1 - 1 - 8 - 1 - 2 - 1) = 2 then some ⟨g2, 14, none⟩ else some ⟨g2, 14 + 2 * 1, none⟩) 0 ((c1 - 1 - 1 - 8 - 1 - 2 - 1) - 2), bF] :: Bt g2 L159 :: bs) (⟨true, sL g4 0 2 c3, 5, 1, 2, [iB 0, iB 0]⟩ :: ⟨false, undef, 5, 1, 0, []⟩ :: rs) K := H
 refine Nl kk (Sp fun _ kk => Av F fun A F => ?_)
 refine Zw F (d_call (vs := [sL g3 0 16 c2]) (v := L160) if_144 F H rfl rfl (Calls.val (Sx.take_box [0, 0, 0, 0, 0, 0, 0, 0, 0, 0, 0, 0, 0, 0, 0, 0] 0#128 rfl (by decide +kernel) (by decide) (H.box 0 g3 _ rfl).1 rfl) rfl (by kernel_rfl))) fun A w F H => ?_
 iterate 3 (refine Av F ?_; intro A F)
 refine Zb F (d_alloc H rfl [iU 0, iU 0] zero_26) fun g5 A w F H => ?_
 refine Zs 0 [iU 0, iU 0] sz_26 F H fun A w F H => ?_
 refine Av F fun A F => ?_
 refine Nl kk (Sp fun _ kk => ?_)
 iterate 3 (refine Av F ?_; intro A F)
 refine Nl kk (Wr (ret1 F Tryz.results127 (res_tmp F rfl) ?_))
 exact ⟨_, rfl, rfl, H.pickN 4 2 [2, 3] []⟩
theorem cx41 (hbc1 : 16 ≤ c1) (H : Sx.Own w0 w (Bt g1 [pT g3 0] :: Bt g2 L157 :: Bt g3 (L163 g4 c1) :: Bt g4 L159 :: bs) rs K) : Cr 128 #[pT g1 0, pT g2 0] w0 w (.tuple #[]) (Bt g1 [pT g3 0] :: Bt g2 L157 :: Bt g3 [.slice (if (c1 - 1 - 1 - 8 - 1 - 2 - 1) = 2 then some ⟨g4, 14, none⟩ else some ⟨g4, 14 + 2 * 1, none⟩) 0 ((c1 - 1 - 1 - 8 - 1 - 2 - 1) - 2), bF] :: Bt g4 L159 :: bs) rs K := by
 refine En Tryz.func128 Tryz.ntmps128 fun A F => ?_
 refine Sx.plain ?_
 refine Av F fun A F => ?_
 have H := H.pickN 4 0 [2, 3, 0, 1] []
 refine Zx F (Do if_127 F (cx40 (by omega) H)) ?_
 rintro _ w ⟨rfl, H⟩ A F
 refine Zv F (d_conv (v := iI 0) F rfl rfl (by kernel_rfl)) fun A F => ?_
 refine Av F fun A F => ?_
 refine Zs 3 L157 sz_3 F H fun A w F H => ?_
 refine Sx.nil ?_
 try dsimp only [Exit.then, Exit.inBlock, Exit.jump, Exit.noGoto]
 refine Sx.end0 F Tryz.results128 ?_
 exact ⟨_, rfl, rfl, H.pickN 4 0 [2, 3, 0, 1] []⟩
theorem cx42 (hbc1 : 16 ≤ c1) (H : Sx.Own w0 w (Bt g1 [iI 0] :: Bt g2 [pT g4 0] :: Bt g4 [.slice (if (c1 - 1 - 1 - 8 - 1 - 2 - 1) = 2 then some ⟨g5, 14, none⟩ else some ⟨g5, 14 + 2 * 1, none⟩) 0 ((c1 - 1 - 1 - 8 - 1 - 2 - 1) - 2), bF] :: bs) rs K) : CallsD Tryz.prog 126 #[pT g1 0, pT g2 0, pT g3 0] .returning w fun e u' w' => u' = .returning ∧ ∃ x, e = .returned x ∧ x = .tuple #[] ∧ Sx.Own w0 w' (Bt g1 [iI 0] :: Bt g2 [pT g4 0] :: Bt g4 [.slice (if (c1 - 1 - 1 - 8 - 1 - 2 - 1) = 2 then some ⟨g5, 14, none⟩ else some ⟨g5, 14 + 2 * 1, none⟩) 0 ((c1 - 1 - 1 - 8 - 1 - 2 - 1) - 2), bF] :: bs) rs K := by
 refine Sx.enterDD (args := [pT g1 0, pT g2 0, pT g3 0]) Tryz.func126 rfl Tryz.ntmps126 (Nat.le_of_ble_eq_true rfl) (fun A F => ?_)
 refine Sx.seq fun K1 hK1 => Sp fun _ kk => ?_
 iterate 8 (refine Av F ?_; intro A F)
 refine Nl kk (condF F rfl (wp_skip (hK1 _ _ (Sp fun _ kk => ?_))))
 iterate 2 (refine Av F ?_; intro A F)
 refine Nl kk (condF F rfl (wp_skip ?_))
 try dsimp only [Exit.then, Exit.inBlock, Exit.jump, Exit.noGoto]
 refine Sx.end0 F Tryz.results126 ?_
 exact ⟨_, rfl, rfl, H.pickN 3 0 [0, 1, 2] []⟩
theorem cx43 (hbc1 : 16 ≤ c1) (H : Sx.Own w0 w (Bt g1 (L162 g2 c1) :: Bt g2 L159 :: bs) rs K) : Cr 91 #[pT g1 0] w0 w (.tuple #[L156, iI 0]) (Bt g1 [.slice (if (c1 - 1 - 1 - 8 - 1 - 2 - 1) = 2 then some ⟨g2, 14, none⟩ else some ⟨g2, 14 + 2 * 1, none⟩) 0 ((c1 - 1 - 1 - 8 - 1 - 2 - 1) - 2), bF] :: Bt g2 L159 :: bs) rs K := by
 refine Sx.enterD (args := [pT g1 0]) Tryz.func91 rfl Tryz.ntmps91 (Nat.le_of_ble_eq_true rfl) (fun A F => ?_)
 refine Sp fun _ kk => Zb F (d_box F H rfl rfl [pT g1 0] rfl) fun g3 A w F H => ?_
 refine Zb F (d_alloc H rfl L146 zero_71) fun g4 A w F H => ?_
 refine Zb F (d_alloc H rfl [iI 0] zero_37) fun g5 A w F H => ?_
 refine Nl kk (Sp fun _ kk => Zv F (d_mkFunc (fv := []) (cv := [pT g5 0, pT g3 0, pT g4 0]) F rfl rfl rfl) fun A F => ?_)
 refine Sx.sDefer (fv := []) (vs := []) (cv := [pT g5 0, pT g3 0, pT g4 0]) F rfl rfl rfl (wanted_none rfl _) rfl ?_
 intro A F
 refine Nl kk (Sp fun _ kk => Av F fun A F => ?_)
 have H := H.pickN 5 0 [3, 4, 0, 1, 2] []
 refine Zx F (Do if_127 F (cx38 (by omega) H)) ?_
 rintro _ w ⟨rfl, H⟩ A F
 refine Zv F (d_conv (v := iI 3) F rfl rfl (by kernel_rfl)) fun A F => ?_
 refine Av F fun A F => ?_
 refine Zs 3 L157 sz_3 F H fun A w F H => ?_
 refine Nl kk (Sx.seq fun K4 hK4 => Sp fun _ kk => Av F fun A F => ?_)
 refine Zx F (Do if_86 F (cx16 H)) ?_
 rintro _ w ⟨rfl, H⟩ A F
 iterate 3 (refine Av F ?_; intro A F)
 refine Zb F (d_alloc H rfl L146 zero_71) fun g6 A w F H => ?_
 refine Zs 0 L157 sz_71 F H fun A w F H => ?_
 refine Av F fun A F => ?_
 refine Nl kk (Sp fun _ kk => Av F fun A F => ?_)
 refine Zv F (d_un (v := bF) F rfl rfl rfl) fun A F => ?_
 refine Nl kk (condF F rfl (wp_skip (hK4 _ _ (Sp fun _ kk => Zv F (d_mkFunc (fv := []) (cv := [pT g3 0, pT g4 0]) F rfl rfl rfl) fun A F => ?_))))
 refine Av F fun A F => ?_
 refine Nl kk (Sx.seq fun K8 hK8 => Sp fun _ kk => ?_)
 iterate 2 (refine Av F ?_; intro A F)
 refine Nl kk (wp_block (Sp fun _ kk => ?_))
 iterate 2 (refine Av F ?_; intro A F)
 refine Nl kk (condF F rfl (Sx.seq fun K11 hK11 => Sp fun _ kk => ?_))
 iterate 2 (refine Av F ?_; intro A F)
 refine Nl kk (condF F rfl (Sp fun _ kk => ?_))
 iterate 2 (refine Av F ?_; intro A F)
 refine Nl kk (condF F rfl (Sx.plain ?_))
 iterate 2 (refine Av F ?_; intro A F)
 refine Sx.nil (hK11 _ _ (condT F rfl (Sx.plain ?_)))
 refine Av F fun A F => ?_
 have H := H.pickN 6 0 [5, 4, 1, 2, 0, 3] []
 refine Zx F (d_callCO (fv := []) (vs := []) (cv := [pT g3 0, pT g4 0]) if_128 F rfl rfl rfl (cx41 (by omega) H)) ?_
 rintro _ w ⟨rfl, H⟩ A F
 refine Sx.nil (hK8 _ _ (Sp fun _ kk => Av F fun A F => ?_))
 refine Zs 1 L157 sz_71 F H fun A w F H => ?_
 refine Zs 5 [iI 0] sz_37 F H fun A w F H => ?_
 refine Nl kk (wp_ret ?_)
 try dsimp only [Exit.then, Exit.inBlock, Exit.jump, Exit.noGoto]
 have H := H.pickN 6 0 [5, 0, 2, 1, 3, 4] []
 refine Sx.leave1 (fv := []) (vs := []) (cv := [pT g5 0, pT g3 0, pT g4 0]) F if_126 (cx42 (by omega) H) ?_
 rintro _ w ⟨rfl, H⟩
 refine ⟨_, Sx.res2 Tryz.results91 (res_row (i := 3) (xs := L157) rw_71 F H rfl rfl rfl rfl) (res_one (i := 0) (v := iI 0) one_37 F H rfl rfl rfl), ?_⟩
 exact ⟨_, rfl, rfl, H.pickN 6 0 [2, 4] []⟩
theorem cx44 (hbc1 : 16 ≤ c1) (H : Sx.Own w0 w (bs) (⟨true, sL g1 0 16 c1, 5, 1, 16, L159⟩ :: rs) K) : Cq 61 #[sL g1 0 16 c1] w fun x w' => ∃ g11 c4 : Nat, 3 ≤ c4 ∧ x = .tuple #[sL g11 0 3 c4, iI 0] ∧ Sx.Own w0 w' (bs) (⟨true, sL g11 0 3 c4, 71, 9, 3, L158⟩ :: rs) K := by
 refine En Tryz.func61 Tryz.ntmps61 fun A F => ?_
 refine Sp fun _ kk => ?_
 iterate 2 (refine Av F ?_; intro A F)
 refine Nl kk (Sp fun _ kk => Av F fun A F => ?_)
 refine Nl kk (Sp fun _ kk => Av F fun A F => ?_)
 refine Zv F (d_build (qs := #[(0, sL g1 0 16 c1)]) (v := .agg #[sL g1 0 16 c1, bF]) F rfl rfl (by kernel_rfl)) fun A F => ?_
 refine Zb F (d_box F H rfl rfl [sL g1 0 16 c1, bF] rfl) fun g2 A w F H => ?_
 refine Av F fun A F => ?_
 refine Nl kk (Sx.seq fun K4 hK4 => wp_block (wp_loop_rounds 40 ?_))
 refine Rs ?_
 refine Sx.seq fun K5 hK5 => Sp fun _ kk => ?_
 iterate 4 (refine Av F ?_; intro A F)
 refine Zv F (d_lenS el_66 F rfl rfl) fun A F => ?_
 refine Av F fun A F => ?_
 refine Nl kk (condT F rfl (wp_skip (hK5 _ _ (wp_block (Sx.seq fun K7 hK7 => Sp fun _ kk => Av F fun A F => ?_)))))
 refine Zv F (d_lenS el_83 F rfl rfl) fun A F => ?_
 refine Av F fun A F => ?_
 refine Nl kk (condF F rfl (wp_skip (hK7 _ _ (Sp fun _ kk => Av F fun A F => ?_))))
 refine Zx F (Do if_91 F (cx29 (by omega) H)) ?_
 rintro _ w ⟨rfl, H⟩ A F
 iterate 3 (refine Av F ?_; intro A F)
 refine Zb F (d_alloc H rfl L146 zero_71) fun g3 A w F H => ?_
 refine Zs 0 L145 sz_71 F H fun A w F H => ?_
 refine Av F fun A F => ?_
 refine Nl kk (Sx.seq fun K10 hK10 => Sp fun _ kk => ?_)
 iterate 2 (refine Av F ?_; intro A F)
 refine Nl kk (condF F rfl (wp_skip (hK10 _ _ (Sx.plain ?_))))
 iterate 2 (refine Av F ?_; intro A F)
 refine Zg (mk := fun g => sL g 0 1 1) F (d_lit (qs := #[(0, L144)]) (cs := #[iI 0, iI 0, iI 0, iI 1, iU 0, iU 0, iU 0, iU 0, nS]) (E := 71) F H rfl rfl (fun _ => by kernel_rfl)) fun g4 A w F H => ?_
 have H := Sx.Own.nilR H 71 9
 refine Zr (mk := fun v => v) F (d_append (i := 0) (j := 0) el_83 F H rfl rfl rfl rfl rfl rfl rfl rfl (by decide) (by decide)) fun v1 A w F H => ?_
 obtain ⟨g5, c2, rfl, hbc2, hdc2⟩ := H.open (i := 0) rfl (by decide)
 refine Av F fun A F => ?_
 refine Sx.nil (Rs ?_)
 refine Sx.seq fun K12 hK12 => Sp fun _ kk => ?_
 iterate 4 (refine Av F ?_; intro A F)
 refine Zv F (d_lenS el_66 F rfl rfl) fun A F => ?_
 refine Av F fun A F => ?_
 refine Nl kk (condT F rfl (wp_skip (hK12 _ _ (wp_block (Sx.seq fun K14 hK14 => Sp fun _ kk => Av F fun A F => ?_)))))
 refine Zv F (d_lenS el_83 F rfl rfl) fun A F => ?_
 refine Av F fun A F => ?_
 refine Nl kk (condF F rfl (wp_skip (hK14 _ _ (Sp fun _ kk => Av F fun A F => ?_))))
 have H := H.pickN 4 1 [2, 3, 0, 1] [0]
 refine Zx F (Do if_91 F (cx36 (by omega) H)) ?_
 rintro _ w ⟨rfl, H⟩ A F
 iterate 3 (refine Av F ?_; intro A F)
 refine Zb F (d_alloc H rfl L146 zero_71) fun g6 A w F H => ?_
 refine Zs 0 L155 sz_71 F H fun A w F H => ?_
 refine Av F fun A F => ?_
 refine Nl kk (Sx.seq fun K17 hK17 => Sp fun _ kk => ?_)
 iterate 2 (refine Av F ?_; intro A F)
 refine Nl kk (condF F rfl (wp_skip (hK17 _ _ (Sx.plain ?_))))
 iterate 2 (refine Av F ?_; intro A F)
 refine Zg (mk := fun g => sL g 0 1 1) F (d_lit (qs := #[(0, L154)]) (cs := #[iI 1, iI 0, iI 0, iI 0, iU 0, iU 0, iU 0, iU 0, nS]) (E := 71) F H rfl rfl (fun _ => by kernel_rfl)) fun g7 A w F H => ?_
 refine Zr (mk := fun v => v) F (d_append (i := 0) (j := 0) el_83 F H rfl rfl rfl rfl rfl rfl rfl rfl (by decide) (by decide)) fun v2 A w F H => ?_
 obtain ⟨g8, c3, rfl, hbc3, hdc3⟩ := H.open (i := 0) rfl (by decide)
 refine Av F fun A F => ?_
 refine Sx.nil (Rs ?_)
 refine Sx.seq fun K19 hK19 => Sp fun _ kk => ?_
 iterate 4 (refine Av F ?_; intro A F)
 refine Zv F (d_lenS el_66 F rfl rfl) fun A F => ?_
 refine Av F fun A F => ?_
 refine Nl kk (condT F rfl (wp_skip (hK19 _ _ (wp_block (Sx.seq fun K21 hK21 => Sp fun _ kk => Av F fun A F => ?_)))))
 refine Zv F (d_lenS el_83 F rfl rfl) fun A F => ?_
 refine Av F fun A F => ?_
 refine Nl kk (condF F rfl (wp_skip (hK21 _ _ (Sp fun _ kk => Av F fun A F => ?_))))
 have H := H.pickN 6 1 [2, 3, 0, 1, 4, 5] [0]
 refine Zx F (Do if_91 F (cx43 (by omega) H)) ?_
 rintro _ w ⟨rfl, H⟩ A F
 iterate 3 (refine Av F ?_; intro A F)
 refine Zb F (d_alloc H rfl L146 zero_71) fun g9 A w F H => ?_
 refine Zs 0 L157 sz_71 F H fun A w F H => ?_
 refine Av F fun A F => ?_
 refine Nl kk (Sx.seq fun K24 hK24 => Sp fun _ kk => ?_)
 iterate 2 (refine Av F ?_; intro A F)
 refine Nl kk (condF F rfl (wp_skip (hK24 _ _ (Sx.plain ?_))))
 iterate 2 (refine Av F ?_; intro A F)
 refine Zg (mk := fun g => sL g 0 1 1) F (d_lit (qs := #[(0, L156)]) (cs := #[iI 3, iI 0, iI 0, iI 0, iU 0, iU 0, iU 0, iU 0, nS]) (E := 71) F H rfl rfl (fun _ => by kernel_rfl)) fun g10 A w F H => ?_
 refine Zr (mk := fun v => v) F (d_append (i := 0) (j := 0) el_83 F H rfl rfl rfl rfl rfl rfl rfl rfl (by decide) (by decide)) fun v3 A w F H => ?_
 obtain ⟨g11, c4, rfl, hbc4, hdc4⟩ := H.open (i := 0) rfl (by decide)
 refine Av F fun A F => ?_
 refine Sx.nil (Rs ?_)
 refine Sx.seq fun K26 hK26 => Sp fun _ kk => ?_
 iterate 4 (refine Av F ?_; intro A F)
 refine Zv F (d_lenS el_66 F rfl rfl) fun A F => ?_
 refine Av F fun A F => ?_
 refine Nl kk (condF F rfl (wp_exit ?_))
 try dsimp only [Exit.then, Exit.jump, Exit.noGoto]
 refine exit_here (hK4 _ _ (Sp fun _ kk => ?_))
 iterate 3 (refine Av F ?_; intro A F)
 refine Nl kk (Wr (ret2 F Tryz.results61 (res_tmp F rfl) (res_tmp F rfl) ?_))
 exact ⟨_, rfl, g11, c4, (by omega), rfl, H.pickN 8 1 [] [0]⟩
end
section
open Sx
variable {w0 w : World} {bs : List Sx.Bx} {rs : List Sx.Rx} {K : Nat → Option Obj} {g1 g2 g3 g4 g5 g6 g7 g8 g9 g10 g11 g12 g13 g14 g15 g16 g17 g18 g19 g20 g21 g22 g23 g24 c1 c2 c3 c4 c5 c6 c7 c8 c9 : Nat} {v1 v2 v3 v4 v5 v6 v7 v8 v9 : Value} {n b : BitVec 64} {at' : BitVec 128} {kd lf : BitVec 8}
theorem cx45 (hbc1 : 3 ≤ c1) (H : Sx.Own w0 w (bs) (⟨true, sL g1 0 3 c1, 71, 9, 3, L158⟩ :: rs) K) : Cr 62 #[sL g1 0 3 c1] w0 w bF (bs) (⟨true, sL g1 0 3 c1, 71, 9, 3, L158⟩ :: rs) K := by
 refine En Tryz.func62 Tryz.ntmps62 fun A F => ?_
 refine Sp fun _ kk => Av F fun A F => ?_
 refine Nl kk (Sx.seq fun K2 hK2 => Sp fun _ kk => Av F fun A F => ?_)
 refine Zv F (d_lenS el_83 F rfl rfl) fun A F => ?_
 refine Av F fun A F => ?_
 refine Nl kk (condF F rfl (wp_skip (hK2 _ _ (Sx.seq fun K4 hK4 => Sp fun _ kk => Av F fun A F => ?_))))
 refine Zv F (d_lenS el_83 F rfl rfl) fun A F => ?_
 refine Av F fun A F => ?_
 refine Nl kk (wp_block (wp_loop_rounds 40 ?_))
 refine Rs ?_
 refine Sp fun _ kk => Av F fun A F => ?_
 refine Nl kk (Sx.seq fun K7 hK7 => condT F rfl (wp_skip (hK7 _ _ (Sx.seq fun K8 hK8 => wp_block (Sp fun _ kk => Zv F (d_ixZ (k := 0) (g := g1) (off := 0) (z := 9) el_83 F rfl rfl rfl rfl rfl (by omega)) fun A F => ?_)))))
 refine Zv F (Lr 0 L145 rw_71 F (H.rowBox (i := 0) rfl)) fun A F => ?_
 refine Zb F (d_alloc H rfl L146 zero_71) fun g2 A w F H => ?_
 refine Zs 0 L145 sz_71 F H fun A w F H => ?_
 refine Nl kk (Sp fun _ kk => ?_)
 iterate 2 (refine Av F ?_; intro A F)
 refine Zv F (d_lenS el_66 F rfl rfl) fun A F => ?_
 refine Av F fun A F => ?_
 refine Nl kk (condF F rfl (wp_skip (hK8 _ _ (Sx.plain ?_))))
 refine Zn (iI 1) F fun A F => ?_
 refine Av F fun A F => ?_
 refine Sx.nil (Rs ?_)
 refine Sp fun _ kk => Av F fun A F => ?_
 refine Nl kk (Sx.seq fun K12 hK12 => condT F rfl (wp_skip (hK12 _ _ (Sx.seq fun K13 hK13 => wp_block (Sp fun _ kk => Zv F (d_ixZ (k := 1) (g := g1) (off := 0) (z := 9) el_83 F rfl rfl rfl rfl rfl (by omega)) fun A F => ?_)))))
 refine Zv F (Lr 0 L155 rw_71 F (H.rowBox (i := 0) rfl)) fun A F => ?_
 refine Zb F (d_alloc H rfl L146 zero_71) fun g3 A w F H => ?_
 refine Zs 0 L155 sz_71 F H fun A w F H => ?_
 refine Nl kk (Sp fun _ kk => ?_)
 iterate 2 (refine Av F ?_; intro A F)
 refine Zv F (d_lenS el_66 F rfl rfl) fun A F => ?_
 refine Av F fun A F => ?_
 refine Nl kk (condF F rfl (wp_skip (hK13 _ _ (Sx.plain ?_))))
 refine Zn (iI 2) F fun A F => ?_
 refine Av F fun A F => ?_
 refine Sx.nil (Rs ?_)
 refine Sp fun _ kk => Av F fun A F => ?_
 refine Nl kk (Sx.seq fun K17 hK17 => condT F rfl (wp_skip (hK17 _ _ (Sx.seq fun K18 hK18 => wp_block (Sp fun _ kk => Zv F (d_ixZ (k := 2) (g := g1) (off := 0) (z := 9) el_83 F rfl rfl rfl rfl rfl (by omega)) fun A F => ?_)))))
 refine Zv F (Lr 0 L157 rw_71 F (H.rowBox (i := 0) rfl)) fun A F => ?_
 refine Zb F (d_alloc H rfl L146 zero_71) fun g4 A w F H => ?_
 refine Zs 0 L157 sz_71 F H fun A w F H => ?_
 refine Nl kk (Sp fun _ kk => ?_)
 iterate 2 (refine Av F ?_; intro A F)
 refine Zv F (d_lenS el_66 F rfl rfl) fun A F => ?_
 refine Av F fun A F => ?_
 refine Nl kk (condF F rfl (wp_skip (hK18 _ _ (Sx.plain ?_))))
 refine Zn (iI 3) F fun A F => ?_
 refine Av F fun A F => ?_
 refine Sx.nil (Rs ?_)
 refine Sp fun _ kk => Av F fun A F => ?_
 refine Nl kk (Sx.seq fun K22 hK22 => condF F rfl (wp_exit ?_))
 try dsimp only [Exit.then, Exit.jump, Exit.noGoto]
 refine exit_here (hK4 _ _ (Sp fun _ kk => Av F fun A F => ?_))
 refine Nl kk (Wr (ret1 F Tryz.results62 (res_tmp F rfl) ?_))
 exact ⟨_, rfl, rfl, H.pickN 3 1 [] [0]⟩
theorem cx46 (hbc1 : 16 ≤ c1) (H : Sx.Own w0 w (bs) (⟨true, sL g1 0 16 c1, 5, 1, 16, L159⟩ :: rs) K) : Cq 24 #[sL g1 0 16 c1] w fun x w' => ∃ g2 c2 : Nat, 3 ≤ c2 ∧ x = .tuple #[sL g2 0 3 c2, bT] ∧ Sx.Own w0 w' (bs) (⟨true, sL g2 0 3 c2, 71, 9, 3, L158⟩ :: rs) K := by
 refine En Tryz.func24 Tryz.ntmps24 fun A F => ?_
 refine Sp fun _ kk => ?_
 iterate 2 (refine Av F ?_; intro A F)
 refine Nl kk (Sx.seq fun K2 hK2 => Sp fun _ kk => Av F fun A F => ?_)
 refine Zv F (d_lenS el_66 F rfl rfl) fun A F => ?_
 refine Av F fun A F => ?_
 refine Nl kk (condF F rfl (wp_skip (hK2 _ _ (Sp fun _ kk => Av F fun A F => ?_))))
 refine Zx F (Do if_61 F (cx44 (by omega) H)) ?_
 rintro _ w ⟨g2, c2, hbc2, rfl, H⟩ A F
 iterate 5 (refine Av F ?_; intro A F)
 refine Nl kk (Sp fun _ kk => ?_)
 iterate 5 (refine Av F ?_; intro A F)
 refine Zv F (d_lenS el_83 F rfl rfl) fun A F => ?_
 iterate 4 (refine Av F ?_; intro A F)
 refine Zx F (Do if_62 F (cx45 (by omega) H)) ?_
 rintro _ w ⟨rfl, H⟩ A F
 refine Zv F (d_un (v := bT) F rfl rfl rfl) fun A F => ?_
 iterate 3 (refine Av F ?_; intro A F)
 refine Nl kk (Wr (ret2 F Tryz.results24 (res_tmp F rfl) (res_tmp F rfl) ?_))
 exact ⟨_, rfl, g2, c2, (by omega), rfl, H.pickN 0 1 [] [0]⟩
theorem cx47 (H : Sx.Own w0 w bs rs K) : Cq 18 #[] w fun x w' => ∃ g1 : Nat, x = pT g1 0 ∧ Sx.Own w0 w' (Bt g1 [nP] :: bs) rs K := by
 refine En Tryz.func18 Tryz.ntmps18 fun A F => ?_
 refine Sp fun _ kk => Av F fun A F => ?_
 refine Nl kk (Sp fun _ kk => Zv F (d_build (qs := #[]) (v := .agg #[nP]) F rfl rfl (by kernel_rfl)) fun A F => ?_)
 refine Zb F (d_box F H rfl rfl [nP] rfl) fun g1 A w F H => ?_
 refine Av F fun A F => ?_
 refine Nl kk (Wr (ret1 F Tryz.results18 (res_tmp F rfl) ?_))
 exact ⟨_, rfl, g1, rfl, H.pickN 1 0 [0] []⟩
theorem cx48 (H : Sx.Own w0 w (Bt g1 [nP] :: bs) rs K) : Cr 53 #[pT g1 0] w0 w bT (Bt g1 [nP] :: bs) rs K := by
 refine En Tryz.func53 Tryz.ntmps53 fun A F => ?_
 refine Sp fun _ kk => Av F fun A F => ?_
 refine Nl kk (Sp fun _ kk => ?_)
 iterate 4 (refine Av F ?_; intro A F)
 refine Zn bT F fun A F => ?_
 refine Av F fun A F => ?_
 refine Nl kk (Wr (ret1 F Tryz.results53 (res_tmp F rfl) ?_))
 exact ⟨_, rfl, rfl, H.pickN 1 0 [0] []⟩
theorem cx49 (H : Sx.Own w0 w bs rs K) : Cq 130 #[] w fun x w' => ∃ g1 : Nat, x = pT g1 0 ∧ Sx.Own w0 w' (Bt g1 [nS, iI 0] :: bs) rs K := by
 refine En Tryz.func130 Tryz.ntmps130 fun A F => ?_
 refine Sp fun _ kk => Av F fun A F => ?_
 refine Nl kk (Sp fun _ kk => Zv F (d_build (qs := #[]) (v := .agg #[nS, iI 0]) F rfl rfl (by kernel_rfl)) fun A F => ?_)
 refine Zb F (d_box F H rfl rfl [nS, iI 0] rfl) fun g1 A w F H => ?_
 refine Av F fun A F => ?_
 refine Nl kk (Wr (ret1 F Tryz.results130 (res_tmp F rfl) ?_))
 exact ⟨_, rfl, g1, rfl, H.pickN 1 0 [0] []⟩
abbrev L165 : Value := .agg #[iU 0, iU 9223372036854775808]
theorem cx50 (H : Sx.Own w0 w bs rs K) : Cq 93 #[iI 1, iU 0] w fun x w' => ∃ g2 g1 : Nat, x = .tuple #[pT g2 0, iI 0] ∧ Sx.Own w0 w' (Bt g2 [pT g1 0, iI 1, iU 0] :: Bt g1 [nS, iI 0] :: bs) rs K := by
 refine En Tryz.func93 Tryz.ntmps93 fun A F => ?_
 refine Sp fun _ kk => ?_
 iterate 2 (refine Av F ?_; intro A F)
 refine Nl kk (Sx.seq fun K2 hK2 => Sp fun _ kk => Av F fun A F => ?_)
 refine Zw F (Dc (v := L165) if_17 F H (Calls.val (v := L66) (glimit1_c _) rfl (by kernel_rfl))) fun A w F H => ?_
 refine Zv F (d_build (qs := #[]) (v := .agg #[iU 0, iU 0]) F rfl rfl (by kernel_rfl)) fun A F => ?_
 refine Zn bF F fun A F => ?_
 refine Nl kk (condF F rfl (wp_skip (hK2 _ _ (Sp fun _ kk => Zx F (Do if_130 F (cx49 H)) ?_))))
 rintro _ w ⟨g1, rfl, H⟩ A F
 iterate 2 (refine Av F ?_; intro A F)
 refine Zv F (d_build (qs := #[(0, pT g1 0), (1, iI 1), (2, iU 0)]) (v := .agg #[pT g1 0, iI 1, iU 0]) F rfl rfl (by kernel_rfl)) fun A F => ?_
 refine Zb F (d_box F H rfl rfl [pT g1 0, iI 1, iU 0] rfl) fun g2 A w F H => ?_
 iterate 2 (refine Av F ?_; intro A F)
 refine Nl kk (Wr (ret2 F Tryz.results93 (res_tmp F rfl) (res_tmp F rfl) ?_))
 exact ⟨_, rfl, g2, g1, rfl, H.pickN 2 0 [0, 1] []⟩
abbrev L166 : Value := .agg #[iU 0, iU 0, iU 0, iU 9223372036854775808]
abbrev L167 : List Value := [iU 0, iU 0, iU 0, iU 9223372036854775808]
theorem cx51 (H : Sx.Own w0 w bs rs K) : Cr 119 #[L166] w0 w bT bs rs K := by
 refine En Tryz.func119 Tryz.ntmps119 fun A F => ?_
 refine Sp fun _ kk => Zb F (d_box F H rfl rfl L167 rfl) fun g1 A w F H => ?_
 refine Av F fun A F => ?_
 refine Nl kk (Sp fun _ kk => ?_)
 iterate 4 (refine Av F ?_; intro A F)
 refine Zw F (Dc (v := iI (-1)) if_16 F H (Calls.val (v := iI (Wd.cmp 0#128 9223372036854775808#128)) (wcmp_c 0#128 9223372036854775808#128 _) rfl (by kernel_rfl))) fun A w F H => ?_
 iterate 2 (refine Av F ?_; intro A F)
 refine Nl kk (Wr (ret1 F Tryz.results119 (res_tmp F rfl) ?_))
 exact ⟨_, rfl, rfl, H.pickN 1 0 [] []⟩
theorem cx52 (H : Sx.Own w0 w (Bt g1 [nS, iI 0] :: bs) rs K) : Cr 82 #[pT g1 0] w0 w nS (Bt g1 [nS, iI 0] :: bs) rs K := by
 refine En Tryz.func82 Tryz.ntmps82 fun A F => ?_
 refine Sp fun _ kk => Av F fun A F => ?_
 refine Nl kk (Sp fun _ kk => Av F fun A F => ?_)
 refine Nl kk (Sx.seq fun K3 hK3 => Sp fun _ kk => ?_)
 iterate 4 (refine Av F ?_; intro A F)
 refine Zv F (d_lenS el_213 F rfl rfl) fun A F => ?_
 refine Av F fun A F => ?_
 refine Nl kk (wp_block (wp_loop_rounds 40 ?_))
 refine Rs ?_
 refine Sp fun _ kk => Av F fun A F => ?_
 refine Nl kk (Sx.seq fun K6 hK6 => condF F rfl (wp_exit ?_))
 try dsimp only [Exit.then, Exit.jump, Exit.noGoto]
 refine exit_here (hK3 _ _ (Sp fun _ kk => ?_))
 iterate 2 (refine Av F ?_; intro A F)
 refine Nl kk (Wr (ret1 F Tryz.results82 (res_tmp F rfl) ?_))
 exact ⟨_, rfl, rfl, H.pickN 1 0 [0] []⟩
theorem cx53 (H : Sx.Own w0 w (Bt g1 [pT g2 0, iI 1, iU 0] :: Bt g2 [nS, iI 0] :: bs) rs K) : Cr 56 #[pT g1 0] w0 w nS (Bt g1 [pT g2 0, iI 1, iU 0] :: Bt g2 [nS, iI 0] :: bs) rs K := by
 refine En Tryz.func56 Tryz.ntmps56 fun A F => ?_
 refine Sp fun _ kk => Av F fun A F => ?_
 refine Nl kk (Sp fun _ kk => Av F fun A F => ?_)
 refine Nl kk (Sx.seq fun K3 hK3 => Sp fun _ kk => ?_)
 iterate 4 (refine Av F ?_; intro A F)
 have H := H.pickN 2 0 [1, 0] []
 refine Zx F (Do if_82 F (cx52 H)) ?_
 rintro _ w ⟨rfl, H⟩ A F
 refine Zv F (d_lenS el_54 F rfl rfl) fun A F => ?_
 refine Av F fun A F => ?_
 refine Nl kk (wp_block (wp_loop_rounds 40 ?_))
 refine Rs ?_
 refine Sp fun _ kk => Av F fun A F => ?_
 refine Nl kk (Sx.seq fun K6 hK6 => condF F rfl (wp_exit ?_))
 try dsimp only [Exit.then, Exit.jump, Exit.noGoto]
 refine exit_here (hK3 _ _ (Sp fun _ kk => ?_))
 iterate 2 (refine Av F ?_; intro A F)
 refine Nl kk (Wr (ret1 F Tryz.results56 (res_tmp F rfl) ?_))
 exact ⟨_, rfl, rfl, H.pickN 2 0 [1, 0] []⟩
theorem cx54 (H : Sx.Own w0 w bs rs K) : Cr 153 #[nS, .func (.func 132) #[] #[pT g1 0]] w0 w (iI (-1)) bs rs K := by
 refine En Tryz.func153 Tryz.ntmps153 fun A F => ?_
 refine Sp fun _ kk => Av F fun A F => ?_
 refine Nl kk (Sx.seq fun K2 hK2 => Sp fun _ kk => Av F fun A F => ?_)
 refine Zv F (d_lenS el_74 F rfl rfl) fun A F => ?_
 refine Av F fun A F => ?_
 refine Nl kk (wp_block (wp_loop_rounds 40 ?_))
 refine Rs ?_
 refine Sp fun _ kk => Av F fun A F => ?_
 refine Nl kk (Sx.seq fun K5 hK5 => condF F rfl (wp_exit ?_))
 try dsimp only [Exit.then, Exit.jump, Exit.noGoto]
 refine exit_here (hK2 _ _ (Sp fun _ kk => Av F fun A F => ?_))
 refine Nl kk (Wr (ret1 F Tryz.results153 (res_tmp F rfl) ?_))
 exact ⟨_, rfl, rfl, H.pickN 0 0 [] []⟩
theorem cx55 (H : Sx.Own w0 w bs rs K) : Cr 131 #[nS, .func (.func 132) #[] #[pT g1 0]] w0 w bF bs rs K := by
 refine En Tryz.func131 Tryz.ntmps131 fun A F => ?_
 refine Sp fun _ kk => Av F fun A F => ?_
 refine Nl kk (Sp fun _ kk => ?_)
 iterate 2 (refine Av F ?_; intro A F)
 refine Zx F (Do if_153 F (cx54 H)) ?_
 rintro _ w ⟨rfl, H⟩ A F
 iterate 2 (refine Av F ?_; intro A F)
 refine Nl kk (Wr (ret1 F Tryz.results131 (res_tmp F rfl) ?_))
 exact ⟨_, rfl, rfl, H.pickN 0 0 [] []⟩
abbrev L168 : List Value := [iI 1, iU 0, iU 0, iU 0, iU 0, iU 0, iU 0, iU 0, iU 0, iU 0, iU 0, iU 0, nS, iI 1, iU 0, iU 0, iU 0, iU 0, iU 0, iU 0, iU 0, iU 0, iU 0, iU 0, iU 0, iW 0, iW 0, bF]
abbrev L169 : Value := .agg #[iI 1, iU 0, iU 0, iU 0, iU 0, iU 0, iU 0, iU 0, iU 0, iU 0, iU 0, iU 0, iW 0, iW 0, bF]
abbrev L170 : Value := .tuple #[.agg #[iI 1, iU 0, iU 0, iU 0, iU 0, iU 0, iU 0, iU 0, iU 0, iU 0, iU 0, iU 0, iW 0, iW 0, bF], iI 0]
abbrev L171 : List Value := [iI 1, iU 0, iU 0, iU 0, iU 0, iU 0, iU 0, iU 0, iU 0, iU 0, iU 0, iU 0, iW 0, iW 0, bF]
theorem cx56 (H : Sx.Own w0 w bs rs K) : Cq 138 #[iI 1, iU 0, .agg #[iU 0, iU 0]] w fun x w' => ∃ g3 : Nat, x = .tuple #[pT g3 0, iI 0] ∧ Sx.Own w0 w' (Bt g3 L168 :: bs) rs K := by
 refine En Tryz.func138 Tryz.ntmps138 fun A F => ?_
 refine Sp fun _ kk => Zb F (d_box F H rfl rfl [iU 0, iU 0] rfl) fun g1 A w F H => ?_
 iterate 2 (refine Av F ?_; intro A F)
 refine Nl kk (Sp fun _ kk => ?_)
 iterate 2 (refine Av F ?_; intro A F)
 refine Zw F (Dc (v := L170) if_81 F H (Calls.val (v' := L170) (snew1_c 0#64 _) rfl (by kernel_rfl))) fun A w F H => ?_
 iterate 3 (refine Av F ?_; intro A F)
 refine Zb F (d_alloc H rfl L79 zero_35) fun g2 A w F H => ?_
 refine Zs 0 L171 sz_35 F H fun A w F H => ?_
 refine Av F fun A F => ?_
 refine Nl kk (Sx.seq fun K3 hK3 => wp_block (Sp fun _ kk => ?_))
 iterate 3 (refine Av F ?_; intro A F)
 refine Nl kk (condF F rfl (Sx.seq fun K5 hK5 => ?_))
 have F := F.tq [(0, iI 1), (1, iU 0), (5, pT g1 0), (6, nP), (7, iI 0), (8, pT g2 0), (9, iI 0)] rfl
 refine Dn F [some (.agg #[iU 0, iU 0]), some (iI 1), some (L165), some (iI (-1)), some (bF), some (bF)] (fun L A w => Sx.Own w0 w (Bt g2 L171 :: Bt g1 [iU 0, iU 0] :: bs) rs K) (H.drew.padG [] [] rfl rfl) ?_ ?_
 ·refine ⟨?_, ?_, ?_, ?_, ?_, ?_, trivial⟩
  ·exact SV (fun _ _ _ F H => Lr 1 [iU 0, iU 0] rw_26 F H)
  ·exact Sa
  ·intro L A w up hun hd F H
   refine step_on rfl (Dc (v := L165) if_17 F H (Calls.val (v := L66) (glimit1_c _) rfl (by kernel_rfl))) ?_
   rintro xv w' ⟨hx, H⟩
   exact ⟨Cs hx, H⟩
  ·intro L A w up hun hd F H
   refine step_on rfl (Dc (v := iI (-1)) if_16 F H (Calls.val (v := iI (Wd.cmp 0#128 9223372036854775808#128)) (wcmp_c 0#128 9223372036854775808#128 _) rfl (by kernel_rfl))) ?_
   rintro xv w' ⟨hx, H⟩
   exact ⟨Cs hx, H⟩
  ·exact Sa
  ·exact Sa
 ·intro L A w hL F H
  have H := H.pickN 2 0 [0, 1] []
  have F := F.tq [(0, iI 1), (1, iU 0), (5, pT g1 0), (6, nP), (7, iI 0), (8, pT g2 0), (9, iI 0), (20, bF)] rfl
  refine hK5 _ _ (condF F rfl (wp_skip (hK3 _ _ (Sp fun _ kk => ?_))))
  iterate 2 (refine Av F ?_; intro A F)
  refine Zw F (Dc (v := L170) if_6 F H (Calls.val (v := .tuple #[.agg #[iI 1, uN (Mx.jump 0#64 (Wd.lo 0#128)), iU 0, iU 0, iU 0, iU 0, uN (Wd.hi 0#128), uN (Wd.lo 0#128), uN (Wd.hi 0#128), uN (Wd.lo 0#128), uN (Wd.hi 0#128), uN (Wd.lo 0#128), iW 0, iW 0, bF], iI 0]) (gjmp1_ok 0#64 0#128 _) rfl (by kernel_rfl))) fun A w F H => ?_
  iterate 3 (refine Av F ?_; intro A F)
  refine Zs 0 L171 sz_35 F H fun A w F H => ?_
  refine Av F fun A F => ?_
  refine Nl kk (Sp fun _ kk => ?_)
  iterate 4 (refine Av F ?_; intro A F)
  refine Zv F (d_build (qs := #[(0, iI 1), (1, iU 0), (2, .agg #[iU 0, iU 0]), (5, L169)]) (v := .agg #[iI 1, iU 0, iU 0, iU 0, iU 0, iU 0, iU 0, iU 0, iU 0, iU 0, iU 0, iU 0, nS, iI 1, iU 0, iU 0, iU 0, iU 0, iU 0, iU 0, iU 0, iU 0, iU 0, iU 0, iU 0, iW 0, iW 0, bF]) F rfl rfl (by kernel_rfl)) fun A F => ?_
  refine Zb F (d_box F H rfl rfl L168 rfl) fun g3 A w F H => ?_
  iterate 3 (refine Av F ?_; intro A F)
  refine Nl kk (Wr (ret2 F Tryz.results138 (res_tmp F rfl) (res_tmp F rfl) ?_))
  exact ⟨_, rfl, g3, rfl, H.pickN 3 0 [0] []⟩
abbrev L172 (x0 : Nat) : List Value := [pT x0 0, iU 0, iU 9223372036854775808]
theorem cx57 (H : Sx.Own w0 w bs rs K) : Cq 98 #[iI 1, iU 0, L166] w fun x w' => ∃ g4 g3 : Nat, x = .tuple #[pT g4 0, iI 0] ∧ Sx.Own w0 w' (Bt g4 (L172 g3) :: Bt g3 L168 :: bs) rs K := by
 refine En Tryz.func98 Tryz.ntmps98 fun A F => ?_
 refine Sp fun _ kk => Zb F (d_box F H rfl rfl L167 rfl) fun g1 A w F H => ?_
 iterate 2 (refine Av F ?_; intro A F)
 refine Nl kk (Sp fun _ kk => Av F fun A F => ?_)
 refine Zw F (Dc (v := L165) if_17 F H (Calls.val (v := L66) (glimit1_c _) rfl (by kernel_rfl))) fun A w F H => ?_
 refine Zb F (d_alloc H rfl [iU 0, iU 0] zero_26) fun g2 A w F H => ?_
 refine Zs 0 [iU 0, iU 9223372036854775808] sz_26 F H fun A w F H => ?_
 refine Nl kk (Sx.seq fun K3 hK3 => wp_block (Sp fun _ kk => Av F fun A F => ?_))
 refine Zv F (d_build (qs := #[]) (v := .agg #[iU 0, iU 0]) F rfl rfl (by kernel_rfl)) fun A F => ?_
 refine Zn bF F fun A F => ?_
 refine Av F fun A F => ?_
 refine Nl kk (condF F rfl (Sp fun _ kk => Av F fun A F => ?_))
 refine Zx F (Do if_119 F (cx51 H)) ?_
 rintro _ w ⟨rfl, H⟩ A F
 refine Zv F (d_un (v := bF) F rfl rfl rfl) fun A F => ?_
 refine Av F fun A F => ?_
 refine Nl kk (condF F rfl (Sp fun _ kk => ?_))
 iterate 3 (refine Av F ?_; intro A F)
 refine Zw F (Dc (v := iI 0) if_16 F H (Calls.val (v := iI (Wd.cmp 9223372036854775808#128 9223372036854775808#128)) (wcmp_c 9223372036854775808#128 9223372036854775808#128 _) rfl (by kernel_rfl))) fun A w F H => ?_
 iterate 2 (refine Av F ?_; intro A F)
 refine Nl kk (condF F rfl (wp_skip (hK3 _ _ (Sp fun _ kk => ?_))))
 iterate 4 (refine Av F ?_; intro A F)
 refine Zx F (Do if_138 F (cx56 H)) ?_
 rintro _ w ⟨g3, rfl, H⟩ A F
 iterate 5 (refine Av F ?_; intro A F)
 refine Nl kk (Sx.seq fun K8 hK8 => Sp fun _ kk => ?_)
 iterate 2 (refine Av F ?_; intro A F)
 refine Nl kk (condF F rfl (wp_skip (hK8 _ _ (Sp fun _ kk => ?_))))
 iterate 3 (refine Av F ?_; intro A F)
 refine Zv F (d_build (qs := #[(0, pT g3 0), (1, L165)]) (v := .agg #[pT g3 0, iU 0, iU 9223372036854775808]) F rfl rfl (by kernel_rfl)) fun A F => ?_
 refine Zb F (d_box F H rfl rfl (L172 g3) rfl) fun g4 A w F H => ?_
 iterate 2 (refine Av F ?_; intro A F)
 refine Nl kk (Wr (ret2 F Tryz.results98 (res_tmp F rfl) (res_tmp F rfl) ?_))
 exact ⟨_, rfl, g4, g3, rfl, H.pickN 4 0 [0, 1] []⟩
theorem cx58 (H : Sx.Own w0 w (Bt g1 [nS, iI 0] :: bs) rs K) : Cq 134 #[pT g1 0, iI 0, pT g2 0] w fun x w' => ∃ g4 c1 : Nat, 1 ≤ c1 ∧ x = iI 0 ∧ Sx.Own w0 w' (Bt g1 [sL g4 0 1 c1, iI 1] :: bs) (⟨true, sL g4 0 1 c1, 217, 2, 1, [iI 0, pT g2 0]⟩ :: rs) K := by
 refine En Tryz.func134 Tryz.ntmps134 fun A F => ?_
 refine Sp fun _ kk => Av F fun A F => ?_
 refine Nl kk (Sx.seq fun K2 hK2 => wp_block (Sp fun _ kk => ?_))
 iterate 4 (refine Av F ?_; intro A F)
 refine Zv F (d_lenS el_213 F rfl rfl) fun A F => ?_
 iterate 2 (refine Av F ?_; intro A F)
 refine Nl kk (condF F rfl (Sp fun _ kk => ?_))
 iterate 11 (refine Av F ?_; intro A F)
 refine Nl kk (condF F rfl (wp_skip (hK2 _ _ (Sp fun _ kk => ?_))))
 iterate 7 (refine Av F ?_; intro A F)
 refine Zv F (d_build (qs := #[(0, iI 0), (1, pT g2 0)]) (v := .agg #[iI 0, pT g2 0]) F rfl rfl (by kernel_rfl)) fun A F => ?_
 refine Zg (mk := fun g => sL g 0 1 1) F (d_lit (qs := #[(0, .agg #[iI 0, pT g2 0])]) (cs := #[iI 0, pT g2 0]) (E := 217) F H rfl rfl (fun _ => by kernel_rfl)) fun g3 A w F H => ?_
 have H := Sx.Own.nilR H 217 2
 refine Zr (mk := fun v => v) F (d_append (i := 0) (j := 0) el_213 F H rfl rfl rfl rfl rfl rfl rfl rfl (by decide) (by decide)) fun v1 A w F H => ?_
 obtain ⟨g4, c1, rfl, hbc1, hdc1⟩ := H.open (i := 0) rfl (by decide)
 iterate 2 (refine Av F ?_; intro A F)
 refine Zs 1 [sL g4 0 1 c1, iI 0] sz_213 F H fun A w F H => ?_
 refine Nl kk (Sp fun _ kk => ?_)
 iterate 2 (refine Av F ?_; intro A F)
 refine Zn (iI 1) F fun A F => ?_
 iterate 2 (refine Av F ?_; intro A F)
 refine Zs 1 [sL g4 0 1 c1, iI 1] sz_3 F H fun A w F H => ?_
 refine Nl kk (Sp fun _ kk => Av F fun A F => ?_)
 refine Nl kk (Wr (ret1 F Tryz.results134 (res_tmp F rfl) ?_))
 exact ⟨_, rfl, g4, c1, (by omega), rfl, H.pickN 2 1 [1] [0]⟩
abbrev L173 : List Value := [pT 0 0, iU 0, iU 9223372036854775808]
theorem cx59 (H : Sx.Own w0 w (Bt g1 [pT g2 0, iI 1, iU 0] :: Bt g2 [nS, iI 0] :: bs) rs K) : Cq 94 #[pT g1 0, iI 0, L166] w fun x w' => ∃ g9 c1 g5 g6 : Nat, 1 ≤ c1 ∧ x = iI 0 ∧ Sx.Own w0 w' (Bt g1 [pT g2 0, iI 1, iU 0] :: Bt g2 [sL g9 0 1 c1, iI 1] :: Bt g5 (L172 g6) :: Bt g6 L168 :: bs) (⟨true, sL g9 0 1 c1, 217, 2, 1, [iI 0, pT g5 0]⟩ :: rs) K := by
 refine En Tryz.func94 Tryz.ntmps94 fun A F => ?_
 refine Sp fun _ kk => Zb F (d_box F H rfl rfl L167 rfl) fun g3 A w F H => ?_
 refine Av F fun A F => ?_
 refine Nl kk (Sp fun _ kk => ?_)
 iterate 4 (refine Av F ?_; intro A F)
 refine Zw F (Dc (v := L165) if_17 F H (Calls.val (v := L66) (glimit1_c _) rfl (by kernel_rfl))) fun A w F H => ?_
 refine Zb F (d_alloc H rfl [iU 0, iU 0] zero_26) fun g4 A w F H => ?_
 refine Zs 0 [iU 0, iU 9223372036854775808] sz_26 F H fun A w F H => ?_
 refine Nl kk (Sx.seq fun K3 hK3 => wp_block (Sp fun _ kk => Av F fun A F => ?_))
 refine Zx F (Do if_119 F (cx51 H)) ?_
 rintro _ w ⟨rfl, H⟩ A F
 refine Zv F (d_un (v := bF) F rfl rfl rfl) fun A F => ?_
 iterate 4 (refine Av F ?_; intro A F)
 refine Zw F (Dc (v := iI 0) if_16 F H (Calls.val (v := iI (Wd.cmp 9223372036854775808#128 9223372036854775808#128)) (wcmp_c 9223372036854775808#128 9223372036854775808#128 _) rfl (by kernel_rfl))) fun A w F H => ?_
 iterate 3 (refine Av F ?_; intro A F)
 refine Nl kk (condF F rfl (Sp fun _ kk => Av F fun A F => ?_))
 have H := H.pickN 4 0 [2, 3, 0, 1] []
 refine Zx F (Do if_56 F (cx53 H)) ?_
 rintro _ w ⟨rfl, H⟩ A F
 refine Zv F (d_mkFunc (fv := []) (cv := [pT g3 0]) F rfl rfl rfl) fun A F => ?_
 refine Zx F (Do if_131 F (cx55 H)) ?_
 rintro _ w ⟨rfl, H⟩ A F
 refine Av F fun A F => ?_
 refine Nl kk (condF F rfl (wp_skip (hK3 _ _ (Sx.seq fun K6 hK6 => ?_))))
 have F := F.tq [(0, pT g1 0), (1, iI 0), (5, pT g3 0), (6, iI 0)] rfl
 have H := H.pickN 4 0 [0, 1, 3] []
 refine Dn F [some (pT g1 0), some (pT g1 0), some (pT g1 1), some (iI 1), some (pT g1 0), some (pT g1 0), some (pT g1 2), some (iU 0), some (L166), none, none, none, some (iI 0), none, some (iI 0)] (fun L A w => ∃ g5 : Nat, ∃ g6 : Nat, (L 9 = true → A.eval (.tmp 41) = .tuple #[pT g5 0, iI 0]) ∧ (L 10 = true → A.eval (.tmp 31) = .tuple #[pT g5 0, iI 0]) ∧ (L 11 = true → A.eval (.tmp 42) = pT g5 0) ∧ (L 13 = true → A.eval (.tmp 8) = pT g5 0) ∧ Sx.Own w0 w ((L 9, g5, (L172 g6)) :: (L 9, g6, L168) :: Bt g1 [pT g2 0, iI 1, iU 0] :: Bt g2 [nS, iI 0] :: Bt g3 L167 :: bs) rs K) ⟨0, 0, (fun h => by cases h), (fun h => by cases h), (fun h => by cases h), (fun h => by cases h), H.drew.padG [(false, 0, L173), (false, 0, L168)] [] rfl rfl⟩ ?_ ?_
 ·refine ⟨?_, ?_, ?_, ?_, ?_, ?_, ?_, ?_, ?_, ?_, ?_, ?_, ?_, ?_, ?_, trivial⟩
  ·intro L A w up hun hd F ⟨g5, g6, p9, p10, p11, p13, H⟩
   have f1 : L 1 = false := up 1 0 rfl hun
   have f2 : L 2 = false := up 2 1 rfl f1
   have f3 : L 3 = false := up 3 2 rfl f2
   have f9 : L 9 = false := up 9 3 rfl f3
   have f10 : L 10 = false := up 10 9 rfl f9
   have f11 : L 11 = false := up 11 10 rfl f10
   have f13 : L 13 = false := up 13 0 rfl hun
   have Hj := H; rw [f9] at Hj
   refine step_on rfl (d_move F (Or.inl rfl) rfl) ?_
   rintro xv w' ⟨hx, rfl⟩
   exact ⟨Cs hx, ⟨g5, g6, Nf f9, Nf f10, Nf f11, Nf f13, H⟩⟩
  ·intro L A w up hun hd F ⟨g5, g6, p9, p10, p11, p13, H⟩
   have f2 : L 2 = false := up 2 1 rfl hun
   have f3 : L 3 = false := up 3 2 rfl f2
   have f9 : L 9 = false := up 9 3 rfl f3
   have f10 : L 10 = false := up 10 9 rfl f9
   have f11 : L 11 = false := up 11 10 rfl f10
   have f13 : L 13 = false := up 13 1 rfl hun
   have Hj := H; rw [f9] at Hj
   refine step_on rfl (d_nil F rfl rfl) ?_
   rintro xv w' ⟨hx, rfl⟩
   exact ⟨Cs hx, ⟨g5, g6, Nf f9, Nf f10, Nf f11, Nf f13, H⟩⟩
  ·intro L A w up hun hd F ⟨g5, g6, p9, p10, p11, p13, H⟩
   have f3 : L 3 = false := up 3 2 rfl hun
   have f9 : L 9 = false := up 9 3 rfl f3
   have f10 : L 10 = false := up 10 9 rfl f9
   have f11 : L 11 = false := up 11 10 rfl f10
   have f13 : L 13 = false := up 13 2 rfl hun
   have Hj := H; rw [f9] at Hj
   refine step_on rfl (Fd F (fa_160_1.default.h _ _ _)) ?_
   rintro xv w' ⟨hx, rfl⟩
   exact ⟨Cs hx, ⟨g5, g6, Nf f9, Nf f10, Nf f11, Nf f13, H⟩⟩
  ·intro L A w up hun hd F ⟨g5, g6, p9, p10, p11, p13, H⟩
   have f9 : L 9 = false := up 9 3 rfl hun
   have f10 : L 10 = false := up 10 9 rfl f9
   have f11 : L 11 = false := up 11 10 rfl f10
   have f13 : L 13 = false := up 13 3 rfl hun
   have Hj := H; rw [f9] at Hj
   refine step_on rfl (Ld 2 one_3 F Hj) ?_
   rintro xv w' ⟨hx, rfl⟩
   exact ⟨Cs hx, ⟨g5, g6, Nf f9, Nf f10, Nf f11, Nf f13, H⟩⟩
  ·intro L A w up hun hd F ⟨g5, g6, p9, p10, p11, p13, H⟩
   have f5 : L 5 = false := up 5 4 rfl hun
   have f6 : L 6 = false := up 6 5 rfl f5
   have f7 : L 7 = false := up 7 6 rfl f6
   have f9 : L 9 = false := up 9 7 rfl f7
   have f10 : L 10 = false := up 10 9 rfl f9
   have f11 : L 11 = false := up 11 10 rfl f10
   have f13 : L 13 = false := up 13 4 rfl hun
   have Hj := H; rw [f9] at Hj
   refine step_on rfl (d_move F (Or.inl rfl) rfl) ?_
   rintro xv w' ⟨hx, rfl⟩
   exact ⟨Cs hx, ⟨g5, g6, Nf f9, Nf f10, Nf f11, Nf f13, H⟩⟩
  ·intro L A w up hun hd F ⟨g5, g6, p9, p10, p11, p13, H⟩
   have f6 : L 6 = false := up 6 5 rfl hun
   have f7 : L 7 = false := up 7 6 rfl f6
   have f9 : L 9 = false := up 9 7 rfl f7
   have f10 : L 10 = false := up 10 9 rfl f9
   have f11 : L 11 = false := up 11 10 rfl f10
   have f13 : L 13 = false := up 13 5 rfl hun
   have Hj := H; rw [f9] at Hj
   refine step_on rfl (d_nil F rfl rfl) ?_
   rintro xv w' ⟨hx, rfl⟩
   exact ⟨Cs hx, ⟨g5, g6, Nf f9, Nf f10, Nf f11, Nf f13, H⟩⟩
  ·intro L A w up hun hd F ⟨g5, g6, p9, p10, p11, p13, H⟩
   have f7 : L 7 = false := up 7 6 rfl hun
   have f9 : L 9 = false := up 9 7 rfl f7
   have f10 : L 10 = false := up 10 9 rfl f9
   have f11 : L 11 = false := up 11 10 rfl f10
   have f13 : L 13 = false := up 13 6 rfl hun
   have Hj := H; rw [f9] at Hj
   refine step_on rfl (Fd F (fa_160_2.default.h _ _ _)) ?_
   rintro xv w' ⟨hx, rfl⟩
   exact ⟨Cs hx, ⟨g5, g6, Nf f9, Nf f10, Nf f11, Nf f13, H⟩⟩
  ·intro L A w up hun hd F ⟨g5, g6, p9, p10, p11, p13, H⟩
   have f9 : L 9 = false := up 9 7 rfl hun
   have f10 : L 10 = false := up 10 9 rfl f9
   have f11 : L 11 = false := up 11 10 rfl f10
   have f13 : L 13 = false := up 13 7 rfl hun
   have Hj := H; rw [f9] at Hj
   refine step_on rfl (Ld 2 one_22 F Hj) ?_
   rintro xv w' ⟨hx, rfl⟩
   exact ⟨Cs hx, ⟨g5, g6, Nf f9, Nf f10, Nf f11, Nf f13, H⟩⟩
  ·intro L A w up hun hd F ⟨g5, g6, p9, p10, p11, p13, H⟩
   have f9 : L 9 = false := up 9 8 rfl hun
   have f10 : L 10 = false := up 10 9 rfl f9
   have f11 : L 11 = false := up 11 10 rfl f10
   have f13 : L 13 = false := up 13 8 rfl hun
   have Hj := H; rw [f9] at Hj
   refine step_on rfl (Lr 4 L167 rw_79 F Hj) ?_
   rintro xv w' ⟨hx, rfl⟩
   exact ⟨Cs hx, ⟨g5, g6, Nf f9, Nf f10, Nf f11, Nf f13, H⟩⟩
  ·intro L A w up hun hd F ⟨g5, g6, p9, p10, p11, p13, H⟩
   have f9 : L 9 = false := hun
   have f10 : L 10 = false := up 10 9 rfl hun
   have f11 : L 11 = false := up 11 10 rfl f10
   have f13 : L 13 = false := up 13 9 rfl hun
   rw [f9] at H
   have H : Sx.Own w0 w ((false, g5, (L172 g6)) :: (false, g6, L168) :: Bt g1 [pT g2 0, iI 1, iU 0] :: Bt g2 [nS, iI 0] :: Bt g3 L167 :: bs) rs K := H
   refine step_on rfl (Do if_98 F (cx57 H)) ?_
   rintro xv w' ⟨g7, g8, hx, H⟩
   have H := H.pickN 7 0 [0, 1, 4, 5, 6] []
   exact ⟨Cn, ⟨g7, g8, (fun _ => (Sx.put_same F (by decide) _).trans hx), Nf f10, Nf f11, Nf f13, H⟩⟩
  ·intro L A w up hun hd F ⟨g5, g6, p9, p10, p11, p13, H⟩
   have t9 : L 9 = true := hd 9 rfl
   have f10 : L 10 = false := hun
   have f11 : L 11 = false := up 11 10 rfl hun
   have f13 : L 13 = false := up 13 10 rfl hun
   have Hj := H; rw [t9] at Hj
   have F := Fr.add F (p9 t9)
   refine step_on rfl (d_move F (Or.inl rfl) rfl) ?_
   rintro xv w' ⟨hx, rfl⟩
   exact ⟨Cn, ⟨g5, g6, Pk p9, (fun _ => (Sx.put_same F (by decide) _).trans hx), Nf f11, Nf f13, H⟩⟩
  ·intro L A w up hun hd F ⟨g5, g6, p9, p10, p11, p13, H⟩
   have t9 : L 9 = true := by
    cases hb : L 9 with
    | true => rfl
    | false =>
     have hb10 := up 10 9 rfl hb
     rw [hd 10 rfl] at hb10; cases hb10
   have t10 : L 10 = true := hd 10 rfl
   have f11 : L 11 = false := hun
   have f13 : L 13 = false := up 13 11 rfl hun
   have Hj := H; rw [t9] at Hj
   have F := Fr.add F (p9 t9)
   have F := Fr.add F (p10 t10)
   refine step_on rfl (d_extract (v := pT g5 0) F rfl rfl rfl) ?_
   rintro xv w' ⟨hx, rfl⟩
   exact ⟨Cn, ⟨g5, g6, Pk p9, Pk p10, (fun _ => (Sx.put_same F (by decide) _).trans hx), Nf f13, H⟩⟩
  ·intro L A w up hun hd F ⟨g5, g6, p9, p10, p11, p13, H⟩
   have t9 : L 9 = true := by
    cases hb : L 9 with
    | true => rfl
    | false =>
     have hb10 := up 10 9 rfl hb
     rw [hd 10 rfl] at hb10; cases hb10
   have t10 : L 10 = true := hd 10 rfl
   have Hj := H; rw [t9] at Hj
   have F := Fr.add F (p9 t9)
   have F := Fr.add F (p10 t10)
   refine step_on rfl (d_extract (v := iI 0) F rfl rfl rfl) ?_
   rintro xv w' ⟨hx, rfl⟩
   exact ⟨Cs hx, ⟨g5, g6, Pk p9, Pk p10, Pk p11, Pk p13, H⟩⟩
  ·intro L A w up hun hd F ⟨g5, g6, p9, p10, p11, p13, H⟩
   have t9 : L 9 = true := hd 9 rfl
   have t10 : L 10 = true := hd 10 rfl
   have t11 : L 11 = true := hd 11 rfl
   have f13 : L 13 = false := hun
   have Hj := H; rw [t9] at Hj
   have F := Fr.add F (p9 t9)
   have F := Fr.add F (p10 t10)
   have F := Fr.add F (p11 t11)
   refine step_on rfl (d_move F (Or.inr rfl) rfl) ?_
   rintro xv w' ⟨hx, rfl⟩
   exact ⟨Cn, ⟨g5, g6, Pk p9, Pk p10, Pk p11, (fun _ => (Sx.put_same F (by decide) _).trans hx), H⟩⟩
  ·intro L A w up hun hd F ⟨g5, g6, p9, p10, p11, p13, H⟩
   have t9 : L 9 = true := hd 9 rfl
   have t10 : L 10 = true := hd 10 rfl
   have t11 : L 11 = true := hd 11 rfl
   have t13 : L 13 = true := hd 13 rfl
   have Hj := H; rw [t9] at Hj
   have F := Fr.add F (p9 t9)
   have F := Fr.add F (p10 t10)
   have F := Fr.add F (p11 t11)
   have F := Fr.add F (p13 t13)
   refine step_on rfl (d_move F (Or.inr rfl) rfl) ?_
   rintro xv w' ⟨hx, rfl⟩
   exact ⟨Cs hx, ⟨g5, g6, Pk p9, Pk p10, Pk p11, Pk p13, H⟩⟩
 ·intro L A w hL F ⟨g5, g6, p9, p10, p11, p13, H⟩
  have t9 : L 9 = true := hL 9 rfl
  have t10 : L 10 = true := hL 10 rfl
  have t11 : L 11 = true := hL 11 rfl
  have t13 : L 13 = true := hL 13 rfl
  rw [t9] at H
  have F := Fr.add F (p9 t9)
  have F := Fr.add F (p10 t10)
  have F := Fr.add F (p11 t11)
  have F := Fr.add F (p13 t13)
  have H := H.pickN 5 0 [0, 1, 2, 3, 4] []
  have F := F.tq [(0, pT g1 0), (1, iI 0), (6, iI 0), (8, pT g5 0), (9, iI 0)] rfl
  refine hK6 _ _ (Sx.seq fun K7 hK7 => Sp fun _ kk => ?_)
  iterate 2 (refine Av F ?_; intro A F)
  refine Nl kk (condF F rfl (wp_skip (hK7 _ _ (Sp fun _ kk => ?_))))
  iterate 6 (refine Av F ?_; intro A F)
  have H := H.pickN 5 0 [3, 0, 1, 2, 4] []
  refine Zx F (Do if_134 F (cx58 H)) ?_
  rintro _ w ⟨g9, c1, hbc1, rfl, H⟩ A F
  refine Av F fun A F => ?_
  refine Nl kk (Wr (ret1 F Tryz.results94 (res_tmp F rfl) ?_))
  exact ⟨_, rfl, g9, c1, g5, g6, (by omega), rfl, H.pickN 5 1 [3, 0, 1, 2] [0]⟩
theorem cx60 (H : Sx.Own w0 w bs rs K) : Cq 71 #[iI 1, iU 0] w fun x w' => ∃ g1 g2 g3 c1 g4 g5 : Nat, 1 ≤ c1 ∧ x = .tuple #[pT g1 0, iI 0] ∧ Sx.Own w0 w' (Bt g1 [pT g2 0, iI 1, iU 0] :: Bt g2 [sL g3 0 1 c1, iI 1] :: Bt g4 (L172 g5) :: Bt g5 L168 :: bs) (⟨true, sL g3 0 1 c1, 217, 2, 1, [iI 0, pT g4 0]⟩ :: rs) K := by
 refine En Tryz.func71 Tryz.ntmps71 fun A F => ?_
 refine Sp fun _ kk => ?_
 iterate 2 (refine Av F ?_; intro A F)
 refine Nl kk (Sp fun _ kk => ?_)
 iterate 2 (refine Av F ?_; intro A F)
 refine Zx F (Do if_93 F (cx50 H)) ?_
 rintro _ w ⟨g1, g2, rfl, H⟩ A F
 iterate 5 (refine Av F ?_; intro A F)
 refine Nl kk (Sx.seq fun K3 hK3 => Sp fun _ kk => ?_)
 iterate 2 (refine Av F ?_; intro A F)
 refine Nl kk (condF F rfl (wp_skip (hK3 _ _ (Sp fun _ kk => ?_))))
 iterate 3 (refine Av F ?_; intro A F)
 refine Zw F (Dc (v := L165) if_17 F H (Calls.val (v := L66) (glimit1_c _) rfl (by kernel_rfl))) fun A w F H => ?_
 refine Zv F (d_build (qs := #[(1, L165)]) (v := L166) F rfl rfl (by kernel_rfl)) fun A F => ?_
 refine Zx F (Do if_94 F (cx59 H)) ?_
 rintro _ w ⟨g3, c1, g4, g5, hbc1, rfl, H⟩ A F
 iterate 2 (refine Av F ?_; intro A F)
 refine Nl kk (Wr (ret2 F Tryz.results71 (res_tmp F rfl) (res_tmp F rfl) ?_))
 exact ⟨_, rfl, g1, g2, g3, c1, g4, g5, (by omega), rfl, H.pickN 4 1 [0, 1, 2, 3] [0]⟩
theorem cx61 (H : Sx.Own w0 w (Bt g1 [nP] :: bs) rs K) : Cr 70 #[pT g1 0, pT g2 0, iI 0] w0 w (.agg #[iI 0, iU 0, nS, nS, iI 0]) (Bt g1 [pT g2 0] :: bs) rs K := by
 refine En Tryz.func70 Tryz.ntmps70 fun A F => ?_
 refine Sp fun _ kk => Zb F (d_alloc H rfl [iI 0, iU 0, nS, nS, iI 0] zero_68) fun g3 A w F H => ?_
 refine Nl kk (Sx.seq fun K2 hK2 => Sp fun _ kk => ?_)
 iterate 2 (refine Av F ?_; intro A F)
 refine Nl kk (condT F rfl (Sx.plain ?_))
 iterate 4 (refine Av F ?_; intro A F)
 refine Zs 1 [pT g2 0] sz_114 F H fun A w F H => ?_
 refine Sx.nil (hK2 _ _ (Sp fun _ kk => Av F fun A F => ?_))
 refine Zv F (d_build (qs := #[(4, iI 0)]) (v := .agg #[iI 0, iU 0, nS, nS, iI 0]) F rfl rfl (by kernel_rfl)) fun A F => ?_
 refine Zs 0 [iI 0, iU 0, nS, nS, iI 0] sz_68 F H fun A w F H => ?_
 refine Nl kk (Wr (ret1 F Tryz.results70 (res_row (i := 0) (xs := [iI 0, iU 0, nS, nS, iI 0]) rw_68 F H rfl rfl rfl rfl) ?_))
 exact ⟨_, rfl, rfl, H.pickN 2 0 [1] []⟩
theorem cx62 (H : Sx.Own w0 w (Bt g1 [nP] :: bs) rs K) : Cq 43 #[pT g1 0, L144] w fun x w' => ∃ g4 g5 g6 c1 g7 g8 : Nat, 1 ≤ c1 ∧ x = .agg #[iI 0, iU 0, nS, nS, iI 0] ∧ Sx.Own w0 w' (Bt g1 [pT g4 0] :: Bt g4 [pT g5 0, iI 1, iU 0] :: Bt g5 [sL g6 0 1 c1, iI 1] :: Bt g7 (L172 g8) :: Bt g8 L168 :: bs) (⟨true, sL g6 0 1 c1, 217, 2, 1, [iI 0, pT g7 0]⟩ :: rs) K := by
 refine En Tryz.func43 Tryz.ntmps43 fun A F => ?_
 refine Sp fun _ kk => Zb F (d_box F H rfl rfl L145 rfl) fun g2 A w F H => ?_
 refine Zb F (d_alloc H rfl [iI 0, iU 0, nS, nS, iI 0] zero_68) fun g3 A w F H => ?_
 refine Nl kk (Sp fun _ kk => ?_)
 iterate 5 (refine Av F ?_; intro A F)
 refine Zx F (Do if_71 F (cx60 H)) ?_
 rintro _ w ⟨g4, g5, g6, c1, g7, g8, hbc1, rfl, H⟩ A F
 iterate 2 (refine Av F ?_; intro A F)
 have H := H.pickN 7 1 [6, 0, 1, 2, 3, 4, 5] [0]
 refine Zx F (Do if_70 F (cx61 H)) ?_
 rintro _ w ⟨rfl, H⟩ A F
 refine Zs 5 [iI 0, iU 0, nS, nS, iI 0] sz_68 F H fun A w F H => ?_
 refine Nl kk (Wr (ret1 F Tryz.results43 (res_row (i := 5) (xs := [iI 0, iU 0, nS, nS, iI 0]) rw_68 F H rfl rfl rfl rfl) ?_))
 exact ⟨_, rfl, g4, g5, g6, c1, g7, g8, (by omega), rfl, H.pickN 7 1 [0, 1, 2, 3, 4] [0]⟩
theorem cx63 (H : Sx.Own w0 w (Bt g1 [nP] :: bs) rs K) : Cq 19 #[pT g1 0, L144] w fun x w' => ∃ g4 g5 g6 c1 g7 g8 : Nat, 1 ≤ c1 ∧ x = .agg #[iI 0, iU 0, nS, nS, iI 0] ∧ Sx.Own w0 w' (Bt g1 [pT g4 0] :: Bt g4 [pT g5 0, iI 1, iU 0] :: Bt g5 [sL g6 0 1 c1, iI 1] :: Bt g7 (L172 g8) :: Bt g8 L168 :: bs) (⟨true, sL g6 0 1 c1, 217, 2, 1, [iI 0, pT g7 0]⟩ :: rs) K := by
 refine En Tryz.func19 Tryz.ntmps19 fun A F => ?_
 refine Sp fun _ kk => Zb F (d_box F H rfl rfl L145 rfl) fun g2 A w F H => ?_
 refine Zb F (d_alloc H rfl [iI 0, iU 0, nS, nS, iI 0] zero_68) fun g3 A w F H => ?_
 refine Nl kk (Sx.seq fun K2 hK2 => ask_map F H ?_)
 intro A w mr mo10 hmK hmo F H
 refine hK2 _ _ (Sp fun _ kk => ?_)
 iterate 3 (refine Av F ?_; intro A F)
 refine Zv F (d_lookup (kt := 3) (et := 117) (z := .nilFunc) (v := .func (.func 43) #[] #[]) (b := true) (by kernel_rfl) (by kernel_rfl) (fun _ => by kernel_rfl) F H rfl rfl rfl (if_pos rfl) hmo rfl) fun A F => ?_
 have H := H.unkeep1 hmK
 iterate 5 (refine Av F ?_; intro A F)
 refine Nl kk (Sx.seq fun K4 hK4 => wp_block (Sp fun _ kk => Av F fun A F => ?_))
 refine Zv F (d_un (v := bF) F rfl rfl rfl) fun A F => ?_
 refine Av F fun A F => ?_
 refine Nl kk (condF F rfl (Sp fun _ kk => Av F fun A F => ?_))
 have H := H.pickN 3 0 [2, 0, 1] []
 refine Zx F (Do if_53 F (cx48 H)) ?_
 rintro _ w ⟨rfl, H⟩ A F
 iterate 6 (refine Av F ?_; intro A F)
 refine su F (wanted_off rfl (guard_known (d := 29) (b := false) F rfl rfl) rfl) rfl (by decide) (fun A F => ?_)
 refine su F (wanted_off rfl (guard_known (d := 29) (b := false) F rfl rfl) rfl) rfl (by decide) (fun A F => ?_)
 refine su F (wanted_off rfl (guard_known (d := 29) (b := false) F rfl rfl) rfl) rfl (by decide) (fun A F => ?_)
 iterate 2 (refine Av F ?_; intro A F)
 refine Nl kk (condF F rfl (wp_skip (hK4 _ _ (Sp fun _ kk => ?_))))
 iterate 3 (refine Av F ?_; intro A F)
 refine Zx F (d_callCO (fv := []) (vs := [pT g1 0, L144]) (cv := []) if_43 F rfl rfl rfl (cx62 H)) ?_
 rintro _ w ⟨g4, g5, g6, c1, g7, g8, hbc1, rfl, H⟩ A F
 refine Zs 5 [iI 0, iU 0, nS, nS, iI 0] sz_68 F H fun A w F H => ?_
 refine Nl kk (Wr (ret1 F Tryz.results19 (res_row (i := 5) (xs := [iI 0, iU 0, nS, nS, iI 0]) rw_68 F H rfl rfl rfl rfl) ?_))
 exact ⟨_, rfl, g4, g5, g6, c1, g7, g8, (by omega), rfl, H.pickN 7 1 [0, 1, 2, 3, 4] [0]⟩
theorem cx64 (H : Sx.Own w0 w (Bt g1 [pT g2 0] :: bs) rs K) : Cr 53 #[pT g1 0] w0 w bF (Bt g1 [pT g2 0] :: bs) rs K := by
 refine En Tryz.func53 Tryz.ntmps53 fun A F => ?_
 refine Sp fun _ kk => Av F fun A F => ?_
 refine Nl kk (Sp fun _ kk => ?_)
 iterate 4 (refine Av F ?_; intro A F)
 refine Zn bF F fun A F => ?_
 refine Av F fun A F => ?_
 refine Nl kk (Wr (ret1 F Tryz.results53 (res_tmp F rfl) ?_))
 exact ⟨_, rfl, rfl, H.pickN 1 0 [0] []⟩
theorem cx65 (H : Sx.Own w0 w bs rs K) : Cr 152 #[.agg #[iI 0, pT g1 0], iI 0] w0 w (iI 0) bs rs K := by
 refine En Tryz.func152 Tryz.ntmps152 fun A F => ?_
 refine Sp fun _ kk => Zb F (d_box F H rfl rfl [iI 0, pT g1 0] rfl) fun g2 A w F H => ?_
 refine Av F fun A F => ?_
 refine Nl kk (Sp fun _ kk => ?_)
 iterate 3 (refine Av F ?_; intro A F)
 refine Zv F (d_max (r := 0) F rfl rfl rfl (by decide)) fun A F => ?_
 refine Zv F (d_min (r := 0) F rfl rfl rfl (by decide)) fun A F => ?_
 refine Zn (iI 0) F fun A F => ?_
 refine Av F fun A F => ?_
 refine Nl kk (Wr (ret1 F Tryz.results152 (res_tmp F rfl) ?_))
 exact ⟨_, rfl, rfl, H.pickN 1 0 [] []⟩
theorem cx66 (hbc1 : 1 ≤ c1) (H : Sx.Own w0 w (bs) (⟨true, sL g1 0 1 c1, 217, 2, 1, [iI 0, pT g2 0]⟩ :: rs) K) : Cr 151 #[sL g1 0 1 c1, iI 0, .func (.func 152) #[] #[]] w0 w (.tuple #[iI 0, bT]) (bs) (⟨true, sL g1 0 1 c1, 217, 2, 1, [iI 0, pT g2 0]⟩ :: rs) K := by
 refine En Tryz.func151 Tryz.ntmps151 fun A F => ?_
 refine Sp fun _ kk => ?_
 iterate 2 (refine Av F ?_; intro A F)
 refine Nl kk (Sp fun _ kk => Av F fun A F => ?_)
 refine Zv F (d_lenS el_213 F rfl rfl) fun A F => ?_
 refine Av F fun A F => ?_
 refine Nl kk (Sp fun _ kk => ?_)
 iterate 3 (refine Av F ?_; intro A F)
 refine Nl kk (Sx.seq fun K4 hK4 => wp_block (wp_loop_rounds 40 ?_))
 refine Rs ?_
 refine Sx.seq fun K5 hK5 => Sp fun _ kk => ?_
 iterate 3 (refine Av F ?_; intro A F)
 refine Nl kk (condT F rfl (wp_skip (hK5 _ _ (wp_block (Sp fun _ kk => ?_)))))
 iterate 2 (refine Av F ?_; intro A F)
 refine Zn (iI 1) F fun A F => ?_
 refine Zv F (d_conv (v := iU 1) F rfl rfl (by kernel_rfl)) fun A F => ?_
 refine Zn (iU 0) F fun A F => ?_
 refine Zv F (d_conv (v := iI 0) F rfl rfl (by kernel_rfl)) fun A F => ?_
 refine Av F fun A F => ?_
 refine Nl kk (Sp fun _ kk => ?_)
 iterate 3 (refine Av F ?_; intro A F)
 refine Zv F (d_ixZ (k := 0) (g := g1) (off := 0) (z := 2) el_213 F rfl rfl rfl rfl rfl (by omega)) fun A F => ?_
 refine Zv F (Lr 0 [iI 0, pT g2 0] rw_217 F (H.rowBox (i := 0) rfl)) fun A F => ?_
 refine Av F fun A F => ?_
 refine Zx F (d_callCO (fv := []) (vs := [.agg #[iI 0, pT g2 0], iI 0]) (cv := []) if_152 F rfl rfl rfl (cx65 H)) ?_
 rintro _ w ⟨rfl, H⟩ A F
 refine Av F fun A F => ?_
 refine Nl kk (condF F rfl (Sx.plain ?_))
 iterate 2 (refine Av F ?_; intro A F)
 refine Sx.nil (Rs ?_)
 refine Sx.seq fun K9 hK9 => Sp fun _ kk => ?_
 iterate 3 (refine Av F ?_; intro A F)
 refine Nl kk (condF F rfl (wp_exit ?_))
 try dsimp only [Exit.then, Exit.jump, Exit.noGoto]
 refine exit_here (hK4 _ _ (Sp fun _ kk => ?_))
 iterate 8 (refine Av F ?_; intro A F)
 refine Zv F (d_ixZ (k := 0) (g := g1) (off := 0) (z := 2) el_213 F rfl rfl rfl rfl rfl (by omega)) fun A F => ?_
 refine Zv F (Lr 0 [iI 0, pT g2 0] rw_217 F (H.rowBox (i := 0) rfl)) fun A F => ?_
 refine Av F fun A F => ?_
 refine Zx F (d_callCO (fv := []) (vs := [.agg #[iI 0, pT g2 0], iI 0]) (cv := []) if_152 F rfl rfl rfl (cx65 H)) ?_
 rintro _ w ⟨rfl, H⟩ A F
 iterate 4 (refine Av F ?_; intro A F)
 refine Nl kk (Wr (ret2 F Tryz.results151 (res_tmp F rfl) (res_tmp F rfl) ?_))
 exact ⟨_, rfl, rfl, H.pickN 0 1 [] [0]⟩
theorem cx67 (hbc1 : 1 ≤ c1) (H : Sx.Own w0 w (Bt g1 [sL g2 0 1 c1, iI 1] :: bs) (⟨true, sL g2 0 1 c1, 217, 2, 1, [iI 0, pT g3 0]⟩ :: rs) K) : Cr 123 #[pT g1 0, iI 0] w0 w (.tuple #[iI 0, bT]) (Bt g1 [sL g2 0 1 c1, iI 1] :: bs) (⟨true, sL g2 0 1 c1, 217, 2, 1, [iI 0, pT g3 0]⟩ :: rs) K := by
 refine En Tryz.func123 Tryz.ntmps123 fun A F => ?_
 refine Sp fun _ kk => ?_
 iterate 2 (refine Av F ?_; intro A F)
 refine Nl kk (Sp fun _ kk => ?_)
 iterate 5 (refine Av F ?_; intro A F)
 refine Zx F (Do if_151 F (cx66 (by omega) H)) ?_
 rintro _ w ⟨rfl, H⟩ A F
 iterate 4 (refine Av F ?_; intro A F)
 refine Nl kk (Wr (ret2 F Tryz.results123 (res_tmp F rfl) (res_tmp F rfl) ?_))
 exact ⟨_, rfl, rfl, H.pickN 1 1 [0] [0]⟩
theorem cx68 (hbc1 : 1 ≤ c1) (H : Sx.Own w0 w (Bt g1 [sL g2 0 1 c1, iI 1] :: bs) (⟨true, sL g2 0 1 c1, 217, 2, 1, [iI 0, pT g3 0]⟩ :: rs) K) : Cr 83 #[pT g1 0, iI 0] w0 w (.tuple #[pT g3 0, bT]) (Bt g1 [sL g2 0 1 c1, iI 1] :: bs) (⟨true, sL g2 0 1 c1, 217, 2, 1, [iI 0, pT g3 0]⟩ :: rs) K := by
 refine En Tryz.func83 Tryz.ntmps83 fun A F => ?_
 refine Sp fun _ kk => ?_
 iterate 2 (refine Av F ?_; intro A F)
 refine Nl kk (Sp fun _ kk => ?_)
 iterate 2 (refine Av F ?_; intro A F)
 refine Zx F (Do if_123 F (cx67 (by omega) H)) ?_
 rintro _ w ⟨rfl, H⟩ A F
 iterate 5 (refine Av F ?_; intro A F)
 refine Nl kk (Sx.seq fun K3 hK3 => Sp fun _ kk => Av F fun A F => ?_)
 refine Zv F (d_un (v := bF) F rfl rfl rfl) fun A F => ?_
 refine Nl kk (condF F rfl (wp_skip (hK3 _ _ (Sp fun _ kk => ?_))))
 iterate 5 (refine Av F ?_; intro A F)
 refine Zv F (d_ixZ (k := 0) (g := g2) (off := 0) (z := 2) el_213 F rfl rfl rfl rfl rfl (by omega)) fun A F => ?_
 refine Av F fun A F => ?_
 refine Zv F (Ld 0 one_161 F (H.rowBox (i := 0) rfl)) fun A F => ?_
 iterate 2 (refine Av F ?_; intro A F)
 refine Nl kk (Wr (ret2 F Tryz.results83 (res_tmp F rfl) (res_tmp F rfl) ?_))
 exact ⟨_, rfl, rfl, H.pickN 1 1 [0] [0]⟩
theorem cx69 (hbc1 : 1 ≤ c1) (H : Sx.Own w0 w (Bt g1 [pT g2 0, iI 1, iU 0] :: Bt g2 [sL g3 0 1 c1, iI 1] :: bs) (⟨true, sL g3 0 1 c1, 217, 2, 1, [iI 0, pT g4 0]⟩ :: rs) K) : Cr 95 #[pT g1 0, iI 0] w0 w (.tuple #[pT g4 0, iI 0]) (Bt g1 [pT g2 0, iI 1, iU 0] :: Bt g2 [sL g3 0 1 c1, iI 1] :: bs) (⟨true, sL g3 0 1 c1, 217, 2, 1, [iI 0, pT g4 0]⟩ :: rs) K := by
 refine En Tryz.func95 Tryz.ntmps95 fun A F => ?_
 refine Sp fun _ kk => ?_
 iterate 2 (refine Av F ?_; intro A F)
 refine Nl kk (Sp fun _ kk => ?_)
 iterate 5 (refine Av F ?_; intro A F)
 have H := H.pickN 2 1 [1, 0] [0]
 refine Zx F (Do if_83 F (cx68 (by omega) H)) ?_
 rintro _ w ⟨rfl, H⟩ A F
 iterate 5 (refine Av F ?_; intro A F)
 refine Nl kk (Sx.seq fun K3 hK3 => Sp fun _ kk => Av F fun A F => ?_)
 refine Zv F (d_un (v := bF) F rfl rfl rfl) fun A F => ?_
 refine Nl kk (condF F rfl (wp_skip (hK3 _ _ (Sp fun _ kk => ?_))))
 iterate 3 (refine Av F ?_; intro A F)
 refine Nl kk (Wr (ret2 F Tryz.results95 (res_tmp F rfl) (res_tmp F rfl) ?_))
 exact ⟨_, rfl, rfl, H.pickN 2 1 [1, 0] [0]⟩
theorem cx70 (hbc1 : 1 ≤ c1) (H : Sx.Own w0 w (Bt g1 [sL g2 0 1 c1, iI 1] :: bs) (⟨true, sL g2 0 1 c1, 217, 2, 1, [iI 0, pT g3 0]⟩ :: rs) K) : Cq 82 #[pT g1 0] w fun x w' => ∃ g6 c2 : Nat, 1 ≤ c2 ∧ x = sL g6 0 1 c2 ∧ Sx.Own w0 w' (Bt g1 [sL g2 0 1 c1, iI 1] :: bs) (⟨true, sL g2 0 1 c1, 217, 2, 1, [iI 0, pT g3 0]⟩ :: ⟨true, sL g6 0 1 c2, 3, 1, 1, [iI 0]⟩ :: rs) K := by
 refine En Tryz.func82 Tryz.ntmps82 fun A F => ?_
 refine Sp fun _ kk => Av F fun A F => ?_
 refine Nl kk (Sp fun _ kk => Av F fun A F => ?_)
 refine Nl kk (Sx.seq fun K3 hK3 => Sp fun _ kk => ?_)
 iterate 4 (refine Av F ?_; intro A F)
 refine Zv F (d_lenS el_213 F rfl rfl) fun A F => ?_
 refine Av F fun A F => ?_
 refine Nl kk (wp_block (wp_loop_rounds 40 ?_))
 refine Rs ?_
 refine Sp fun _ kk => Av F fun A F => ?_
 refine Nl kk (Sx.seq fun K6 hK6 => condT F rfl (wp_skip (hK6 _ _ (Sx.seq fun K7 hK7 => wp_block (Sp fun _ kk => Zv F (d_ixZ (k := 0) (g := g2) (off := 0) (z := 2) el_213 F rfl rfl rfl rfl rfl (by omega)) fun A F => ?_)))))
 refine Zv F (Lr 0 [iI 0, pT g3 0] rw_217 F (H.rowBox (i := 0) rfl)) fun A F => ?_
 refine Zb F (d_alloc H rfl [iI 0, nP] zero_217) fun g4 A w F H => ?_
 refine Zs 0 [iI 0, pT g3 0] sz_217 F H fun A w F H => ?_
 refine Nl kk (Sx.plain ?_)
 iterate 3 (refine Av F ?_; intro A F)
 refine Zg (mk := fun g => sL g 0 1 1) F (d_lit (qs := #[(0, iI 0)]) (cs := #[iI 0]) (E := 3) F H rfl rfl (fun _ => by kernel_rfl)) fun g5 A w F H => ?_
 have H := Sx.Own.nilR H 3 1
 refine Zr (mk := fun v => v) F (d_append (i := 0) (j := 0) el_54 F H rfl rfl rfl rfl rfl rfl rfl rfl (by decide) (by decide)) fun v1 A w F H => ?_
 obtain ⟨g6, c2, rfl, hbc2, hdc2⟩ := H.open (i := 0) rfl (by decide)
 refine Av F fun A F => ?_
 refine Sx.nil (hK7 _ _ (Sx.plain ?_))
 refine Zn (iI 1) F fun A F => ?_
 refine Av F fun A F => ?_
 refine Sx.nil (Rs ?_)
 refine Sp fun _ kk => Av F fun A F => ?_
 refine Nl kk (Sx.seq fun K10 hK10 => condF F rfl (wp_exit ?_))
 try dsimp only [Exit.then, Exit.jump, Exit.noGoto]
 refine exit_here (hK3 _ _ (Sp fun _ kk => ?_))
 iterate 2 (refine Av F ?_; intro A F)
 refine Nl kk (Wr (ret1 F Tryz.results82 (res_tmp F rfl) ?_))
 exact ⟨_, rfl, g6, c2, (by omega), rfl, H.pickN 3 2 [2] [1, 0]⟩
theorem cx71 (hbc1 : 1 ≤ c1) (H : Sx.Own w0 w (Bt g1 [sL g2 0 1 c1, iI 1] :: bs) rs K) : Cr 96 #[pT g1 0] w0 w (iI 1) (Bt g1 [sL g2 0 1 c1, iI 1] :: bs) rs K := by
 refine En Tryz.func96 Tryz.ntmps96 fun A F => ?_
 refine Sp fun _ kk => Av F fun A F => ?_
 refine Nl kk (Sp fun _ kk => ?_)
 iterate 5 (refine Av F ?_; intro A F)
 refine Nl kk (Wr (ret1 F Tryz.results96 (res_tmp F rfl) ?_))
 exact ⟨_, rfl, rfl, H.pickN 1 0 [0] []⟩
theorem cx72 (H : Sx.Own w0 w (Bt g1 L168 :: bs) rs K) : Cr 124 #[pT g1 0] w0 w (.agg #[iU 0, iU 0]) (Bt g1 L168 :: bs) rs K := by
 refine En Tryz.func124 Tryz.ntmps124 fun A F => ?_
 refine Sp fun _ kk => Zb F (d_alloc H rfl [iU 0, iU 0] zero_26) fun g2 A w F H => ?_
 refine Nl kk (Sp fun _ kk => ?_)
 iterate 4 (refine Av F ?_; intro A F)
 refine Zs 0 [iU 0, iU 0] sz_26 F H fun A w F H => ?_
 refine Nl kk (Wr (ret1 F Tryz.results124 (res_row (i := 0) (xs := [iU 0, iU 0]) rw_26 F H rfl rfl rfl rfl) ?_))
 exact ⟨_, rfl, rfl, H.pickN 2 0 [1] []⟩
theorem cx73 (H : Sx.Own w0 w (Bt g1 (L172 g2) :: Bt g2 L168 :: bs) rs K) : Cr 84 #[pT g1 0] w0 w L166 (Bt g1 (L172 g2) :: Bt g2 L168 :: bs) rs K := by
 refine En Tryz.func84 Tryz.ntmps84 fun A F => ?_
 refine Sp fun _ kk => Zb F (d_alloc H rfl [iU 0, iU 0, iU 0, iU 0] zero_79) fun g3 A w F H => ?_
 refine Nl kk (Sx.seq fun K2 hK2 => ?_)
 have F := F.tq [(0, pT g1 0), (2, pT g3 0)] rfl
 refine Dn F [some (pT g1 0), some (pT g1 0), some (pT g1 0), some (pT g2 0), some (.agg #[iU 0, iU 0]), some (pT g1 0), some (pT g1 0), some (pT g1 1), some (L165), some (L166), none] (fun L A w => Sx.Own w0 w (Bt g3 (cond (L 10) L167 [iU 0, iU 0, iU 0, iU 0]) :: Bt g1 (L172 g2) :: Bt g2 L168 :: bs) rs K) (H.drew.padG [] [] rfl rfl) ?_ ?_
 ·refine ⟨?_, ?_, ?_, ?_, ?_, ?_, ?_, ?_, ?_, ?_, ?_, trivial⟩
  ·exact Sa
  ·exact Sa
  ·exact Sa
  ·exact SV (fun _ _ _ F H => Ld 1 one_220 F H)
  ·intro L A w up hun hd F H
   have f10 : L 10 = false := up 10 4 rfl hun
   rw [f10] at H
   have H : Sx.Own w0 w (Bt g3 [iU 0, iU 0, iU 0, iU 0] :: Bt g1 (L172 g2) :: Bt g2 L168 :: bs) rs K := H
   have H := H.pickN 3 0 [2, 0, 1] []
   refine step_on rfl (Do if_124 F (cx72 H)) ?_
   rintro xv w' ⟨hx, H⟩
   have H := H.pickN 3 0 [1, 2, 0] []
   exact ⟨Cs hx, (by show Sx.Own _ _ _ _ _; rw [show Inv.add L 4 10 = false from f10]; exact H)⟩
  ·exact Sa
  ·exact Sa
  ·exact Sa
  ·exact SV (fun _ _ _ F H => Lr 1 [iU 0, iU 9223372036854775808] rw_26 F H)
  ·exact SV (fun _ _ _ F _ => d_build (qs := #[(0, .agg #[iU 0, iU 0]), (1, L165)]) (v := L166) F rfl rfl (by kernel_rfl))
  ·intro L A w up hun hd F H
   have f10 : L 10 = false := hun
   rw [f10] at H
   refine step_on rfl (d_store (i := 0) (xs := L167) (us := L167) sz_79 F H rfl rfl rfl rfl rfl rfl rfl (Nat.le_of_ble_eq_true rfl) rfl) ?_
   intro xv w' H
   exact ⟨Cn, H⟩
 ·intro L A w hL F H
  have t10 : L 10 = true := hL 10 rfl
  rw [t10] at H
  have H := H.pickN 3 0 [0, 1, 2] []
  have F := F.tq [(2, pT g3 0)] rfl
  refine hK2 _ _ (Wr (ret1 F Tryz.results84 (res_row (i := 0) (xs := L167) rw_79 F H rfl rfl rfl rfl) ?_))
  exact ⟨_, rfl, rfl, H.pickN 3 0 [1, 2] []⟩
abbrev L174 : Value := .tuple #[.agg #[iU 0, iU 9223372036854775808], bF]
abbrev L176 : Value := .tuple #[.agg #[uH (9223372036854775808#128 - 0#128), uL (9223372036854775808#128 - 0#128)], .bool (Wd.less 9223372036854775808#128 0#128)]
theorem cx74 (H : Sx.Own w0 w bs rs K) : Cr 135 #[L166] w0 w L165 bs rs K := by
 refine En Tryz.func135 Tryz.ntmps135 fun A F => ?_
 refine Sp fun _ kk => Zb F (d_box F H rfl rfl L167 rfl) fun g1 A w F H => ?_
 refine Zb F (d_alloc H rfl [iU 0, iU 0] zero_26) fun g2 A w F H => ?_
 refine Nl kk (Sx.seq fun K2 hK2 => Sp fun _ kk => Av F fun A F => ?_)
 refine Zx F (Do if_119 F (cx51 H)) ?_
 rintro _ w ⟨rfl, H⟩ A F
 refine Zv F (d_un (v := bF) F rfl rfl rfl) fun A F => ?_
 refine Nl kk (condF F rfl (wp_skip (hK2 _ _ (Sp fun _ kk => ?_))))
 iterate 4 (refine Av F ?_; intro A F)
 refine Zw F (Dc (v := L174) if_155 F H (Calls.val (v := L176) (wsub_c 9223372036854775808#128 0#128 _) rfl (by kernel_rfl))) fun A w F H => ?_
 iterate 3 (refine Av F ?_; intro A F)
 refine Zb F (d_alloc H rfl [iU 0, iU 0] zero_26) fun g3 A w F H => ?_
 refine Zs 0 [iU 0, iU 9223372036854775808] sz_26 F H fun A w F H => ?_
 refine Av F fun A F => ?_
 refine Nl kk (Sp fun _ kk => Av F fun A F => ?_)
 refine Zs 1 [iU 0, iU 9223372036854775808] sz_26 F H fun A w F H => ?_
 refine Nl kk (Wr (ret1 F Tryz.results135 (res_row (i := 1) (xs := [iU 0, iU 9223372036854775808]) rw_26 F H rfl rfl rfl rfl) ?_))
 exact ⟨_, rfl, rfl, H.pickN 3 0 [] []⟩
end
end Go.Proofs.YteecadoakmdibaaGreat
