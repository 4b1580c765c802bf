/- What the proof of TopJump leans on: part 10. -/
import Derived.Test.YteecadoakmdibaaGreatQ2
import Derived.Test.YteecadoakmdibaaGreatQ7
import Derived.Test.YteecadoakmdibaaGreatQ9
set_option maxRecDepth 100000
set_option maxHeartbeats 4000000
namespace Go.Proofs.YteecadoakmdibaaGreat
open Go Go.RowKit
section
open Sx
variable {w0 w : World} {bs : List Sx.Bx} {rs : List Sx.Rx} {K : Nat → Option Obj}
set_option maxRecDepth 100000 in
abbrev L105 : Value := .agg #[iI 0, iI 0, iI 0, iI 1, iU 0, iU 0, iU 0, iU 0, nS]
abbrev L106 : List Value := [iI 0, iI 0, iI 0, iI 1, iU 0, iU 0, iU 0, iU 0, nS]
abbrev L107 : List Value := [iI 0, iI 0, iI 0, iI 0, iU 0, iU 0, iU 0, iU 0, nS]
abbrev L108 : Value := .agg #[iI 0, iI 0, iI 0, iI 0, iU 0, iU 0, iU 0, iU 0, nS]
abbrev L109 (x0 x1 x2 : Nat) : List (Nat × Value) := [(1, pT x0 0), (2, pT x1 0), (3, bF), (4, pT x2 0), (9, iI 0)]
theorem cx1   (H : Sx.Own w0 w (bs) (rs) K) : Cq 86 #[L105] w fun x w' => x = .tuple #[L105, bT] ∧ Sx.Own w0 w' (bs) (rs) K := by
 refine En Tryz.func86 Tryz.ntmps86 fun A F => ?_
 refine Sp fun _ kk => Zb F (d_box F H rfl rfl L106 rfl) fun g1 A w F H => ?_
 refine Zb F (d_alloc H rfl L107 zero_71) fun g2 A w F H => ?_
 refine Av F fun A F => ?_
 refine Nl kk (Sp fun _ kk => ?_)
 iterate 2 (refine Av F ?_; intro A F)
 refine Zv F (d_build (qs := #[(0, iI 0)]) (v := L108) F rfl rfl (by kernel_rfl)) fun A F => ?_
 refine Zb F (d_alloc H rfl L107 zero_71) fun g3 A w F H => ?_
 refine Zs 0 L107 sz_71 F H fun A w F H => ?_
 refine Nl kk (Sx.seq fun K3 hK3 => Sp fun _ kk => ?_)
 iterate 2 (refine Av F ?_; intro A F)
 refine Nl kk (wp_block (Sp fun _ kk => ?_))
 iterate 2 (refine Av F ?_; intro A F)
 refine Nl kk (condT F rfl ?_)
 have F := F.tq (L109 g1 g2 g3) rfl
 refine Dn F [some (pT g1 3), some (iI 1), some (pT g1 4), some (iU 0), some (pT g3 3), none, some (pT g3 4), none] (fun L A w => Sx.Own w0 w ((true, g3, (cond (L 5) L106 L107)) :: (true, g2, L107) :: (true, g1, L106) :: bs) (rs) K) (H.drew.padG [] [] rfl rfl) ?_ ?_
 ·refine ⟨?_, ?_, ?_, ?_, ?_, ?_, ?_, ?_, trivial⟩
  ·exact Sa
  ·exact SV (fun _ _ _ F H => Ld 2 one_3 F H)
  ·exact Sa
  ·exact SV (fun _ _ _ F H => Ld 2 one_22 F H)
  ·exact Sa
  ·intro L A w up hun hd F H
   have f5 : L 5 = false := hun
   rw [f5] at H
   refine step_on rfl (d_store (i := 0) (xs := [iI 1]) (us := L106) sz_3 F H rfl rfl rfl rfl rfl rfl rfl (Nat.le_of_ble_eq_true rfl) rfl) ?_
   intro xv w' H
   exact ⟨Cn, H⟩
  ·exact Sa
  ·intro L A w up hun hd F H
   have t5 : L 5 = true := hd 5 rfl
   rw [t5] at H
   refine step_on rfl (d_store (i := 0) (xs := [iU 0]) (us := L106) sz_22 F H rfl rfl rfl rfl rfl rfl rfl (Nat.le_of_ble_eq_true rfl) rfl) ?_
   intro xv w' H
   exact ⟨Cn, (by show Sx.Own _ _ _ _ _; rw [show Inv.add L 7 5 = true from t5]; exact H)⟩
 ·intro L A w hL F H
  have t5 : L 5 = true := hL 5 rfl
  rw [t5] at H
  have H := H.pickN 3 0 [0, 1, 2] []
  have F := F.tq (L109 g1 g2 g3) rfl
  refine hK3 _ _ (Sp fun _ kk => Av F fun A F => ?_)
  refine Zs 1 L106 sz_71 F H fun A w F H => ?_
  refine Av F fun A F => ?_
  refine Nl kk (Wr (ret2 F Tryz.results86 (res_row (i := 1) (xs := L106) rw_71 F H rfl rfl rfl rfl) (res_tmp F rfl) ?_))
  exact ⟨_, rfl, rfl, H.pickN 3 0 [] []⟩
set_option maxRecDepth 100000 in
theorem cx2   (H : Sx.Own w0 w (bs) (rs) K) : Cq 87 #[iI 0, iI 65535] w fun x w' => x = bT ∧ Sx.Own w0 w' (bs) (rs) K := by
 refine En Tryz.func87 Tryz.ntmps87 fun A F => ?_
 refine Sp fun _ kk => Av F fun A F => ?_
 refine Nl kk (Sp fun _ kk => ?_)
 iterate 8 (refine Av F ?_; intro A F)
 refine Nl kk (Wr (ret1 F Tryz.results87 (res_tmp F rfl) ?_))
 exact ⟨_, rfl, rfl, H.pickN 0 0 [] []⟩
set_option maxRecDepth 100000 in
theorem cx3   (H : Sx.Own w0 w (bs) (rs) K) : Cq 87 #[iI 1, iI 255] w fun x w' => x = bT ∧ Sx.Own w0 w' (bs) (rs) K := by
 refine En Tryz.func87 Tryz.ntmps87 fun A F => ?_
 refine Sp fun _ kk => Av F fun A F => ?_
 refine Nl kk (Sp fun _ kk => ?_)
 iterate 8 (refine Av F ?_; intro A F)
 refine Nl kk (Wr (ret1 F Tryz.results87 (res_tmp F rfl) ?_))
 exact ⟨_, rfl, rfl, H.pickN 0 0 [] []⟩
set_option maxRecDepth 100000 in
theorem cx4   (H : Sx.Own w0 w (bs) (rs) K) : Cq 59 #[L105] w fun x w' => x = iI 0 ∧ Sx.Own w0 w' (bs) (rs) K := by
 refine En Tryz.func59 Tryz.ntmps59 fun A F => ?_
 refine Sp fun _ kk => Zb F (d_box F H rfl rfl L106 rfl) fun g1 A w F H => ?_
 refine Av F fun A F => ?_
 refine Nl kk (Sp fun _ kk => Av F fun A F => ?_)
 refine Zx F (Do if_86 F (cx1 H)) ?_
 rintro _ w ⟨rfl, H⟩ A F
 iterate 3 (refine Av F ?_; intro A F)
 refine Zb F (d_alloc H rfl L107 zero_71) fun g2 A w F H => ?_
 refine Zs 0 L106 sz_71 F H fun A w F H => ?_
 refine Av F fun A F => ?_
 refine Nl kk (Sp fun _ kk => ?_)
 iterate 38 (refine Av F ?_; intro A F)
 refine Zn bT F fun A F => ?_
 iterate 4 (refine Av F ?_; intro A F)
 refine Zv F (d_lenS el_66 F rfl rfl) fun A F => ?_
 iterate 2 (refine Av F ?_; intro A F)
 refine Zv F (d_lenS el_66 F rfl rfl) fun A F => ?_
 iterate 3 (refine Av F ?_; intro A F)
 refine Nl kk (Sx.seq fun K4 hK4 => Sp fun _ kk => Av F fun A F => ?_)
 refine Zv F (d_un (v := bF) F rfl rfl rfl) fun A F => ?_
 iterate 2 (refine Av F ?_; intro A F)
 refine Zv F (d_un (v := bF) F rfl rfl rfl) fun A F => ?_
 iterate 4 (refine Av F ?_; intro A F)
 refine Zx F (Do if_87 F (cx2 H)) ?_
 rintro _ w ⟨rfl, H⟩ A F
 refine Zv F (d_un (v := bF) F rfl rfl rfl) fun A F => ?_
 iterate 4 (refine Av F ?_; intro A F)
 refine Zx F (Do if_87 F (cx2 H)) ?_
 rintro _ w ⟨rfl, H⟩ A F
 refine Zv F (d_un (v := bF) F rfl rfl rfl) fun A F => ?_
 iterate 4 (refine Av F ?_; intro A F)
 refine Zx F (Do if_87 F (cx3 H)) ?_
 rintro _ w ⟨rfl, H⟩ A F
 refine Zv F (d_un (v := bF) F rfl rfl rfl) fun A F => ?_
 iterate 4 (refine Av F ?_; intro A F)
 refine Zv F (d_lenS el_66 F rfl rfl) fun A F => ?_
 iterate 2 (refine Av F ?_; intro A F)
 refine Nl kk (condF F rfl (wp_skip (hK4 _ _ (Sp fun _ kk => Av F fun A F => ?_))))
 refine Nl kk (Wr (ret1 F Tryz.results59 (res_tmp F rfl) ?_))
 exact ⟨_, rfl, rfl, H.pickN 2 0 [] []⟩
set_option maxRecDepth 100000 in
abbrev L110 : List Value := [iB 1, iB 0, iB 0, iB 0, iB 0, iB 0, iB 0, iB 0, iB 0, iB 0, iB 0, iB 0, iB 0, iB 0, iB 0, iB 0]
theorem cx5   (H : Sx.Own w0 w (bs) (rs) K) : Cq 89 #[iU 1, iI 1] w fun x w' => ∃ g1 c1 : Nat, 16 ≤ c1 ∧ x = sL g1 0 1 c1 ∧ Sx.Own w0 w' ((true, g1, L110) :: bs) (rs) K := by
 refine En Tryz.func89 Tryz.ntmps89 fun A F => ?_
 refine Sp fun _ kk => Av F fun A F => ?_
 refine Nl kk (Sp fun _ kk => Av F fun A F => ?_)
 refine Zw F (d_call (vs := [iU 1]) (v := .agg #[iU 0, iU 1]) if_15 F H rfl rfl (Calls.val (v := L26) (Calls.val (wofV_c 1#64 _) (by kernel_rfl) (by kernel_rfl)) rfl (by kernel_rfl))) fun A w F H => ?_
 refine Zr (mk := fun v => v) F (d_callR (vs := [.agg #[iU 0, iU 1]]) (mk := fun v => v) if_90 F H rfl rfl (wput_c 1#128 _)) fun v1 A w F H => ?_
 have H := H.xs (i := 0) (ys := L110) rfl (by kernel_rfl)
 obtain ⟨g1, c1, rfl, hbc1, hdc1⟩ := H.open (i := 0) rfl (by decide)
 refine Av F fun A F => ?_
 have H := H.rowBox (i := 0) rfl
 refine Zv F (d_sliceH (h := 1) el_66 F rfl rfl rfl rfl (by omega)) fun A F => ?_
 refine Av F fun A F => ?_
 refine Nl kk (Wr (ret1 F Tryz.results89 (res_tmp F rfl) ?_))
 exact ⟨_, rfl, g1, c1, (by omega), rfl, H.pickN 1 1 [0] []⟩
set_option maxRecDepth 100000 in
theorem cx6 {g1 g2 c1 : Nat} (hbc1 : 1 ≤ c1) (H : Sx.Own w0 w ((true, g1, [sL g2 0 1 c1]) :: bs) (⟨true, sL g2 0 1 c1, 5, 1, 1, [iB 0]⟩ :: rs) K) : Cq 88 #[iU 1, iI 1, pT g1 0] w fun x w' => ∃ g5 c4 : Nat, 2 ≤ c4 ∧ x = .tuple #[] ∧ Sx.Own w0 w' ((true, g1, [sL g5 0 2 c4]) :: bs) (⟨true, sL g5 0 2 c4, 5, 1, 2, [iB 0, iB 1]⟩ :: rs) K := by
 refine En Tryz.func88 Tryz.ntmps88 fun A F => ?_
 have F := F.tq [(0, iU 1), (1, iI 1), (2, pT g1 0)] rfl
 refine Dn F [some (sL g2 0 1 c1), some (iU 1), some (iI 1), none, none, none] (fun L A w => ∃ g3 : Nat, ∃ c2 : Nat, ∃ v1 : Value, (L 3 = true → A.eval (.tmp 8) = sL g3 0 1 c2) ∧ (L 4 = true → A.eval (.tmp 9) = v1) ∧ (L 3 = true → 16 ≤ c2) ∧ Sx.Own w0 w ((L 3, g3, L110) :: (true, g1, (cond (L 5) [v1] [sL g2 0 1 c1])) :: bs) (⟨L 4, v1, 5, 1, 2, [iB 0, iB 1]⟩ :: ⟨cond (L 4) false (true), sL g2 0 1 c1, 5, 1, 1, [iB 0]⟩ :: rs) K) ⟨0, 0, undef, (fun h => by cases h), (fun h => by cases h), (fun h => by cases h), H.drew.padG [(false, 0, L110)] [⟨false, undef, 5, 1, 2, [iB 0, iB 1]⟩] rfl rfl⟩ ?_ ?_
 ·refine ⟨?_, ?_, ?_, ?_, ?_, ?_, trivial⟩
  ·intro L A w up hun hd F ⟨g3, c2, v1, p3, p4, qc2, H⟩
   have f4 : L 4 = false := up 4 0 rfl hun
   have f5 : L 5 = false := up 5 0 rfl hun
   have G := H; rw [f4, f5] at G
   refine step_on rfl (Ld 1 one_66 F G) ?_
   rintro xv w' ⟨hx, rfl⟩
   exact ⟨Cs hx, ⟨g3, c2, v1, Pk p3, Nf f4, qc2, H⟩⟩
  ·intro L A w up hun hd F ⟨g3, c2, v1, p3, p4, qc2, H⟩
   have f3 : L 3 = false := up 3 1 rfl hun
   have f4 : L 4 = false := up 4 3 rfl f3
   have f5 : L 5 = false := up 5 1 rfl hun
   have G := H; rw [f3, f4, f5] at G
   refine step_on rfl (d_move F (Or.inl rfl) rfl) ?_
   rintro xv w' ⟨hx, rfl⟩
   exact ⟨Cs hx, ⟨g3, c2, v1, Nf f3, Nf f4, Nf f3, H⟩⟩
  ·intro L A w up hun hd F ⟨g3, c2, v1, p3, p4, qc2, H⟩
   have f3 : L 3 = false := up 3 2 rfl hun
   have f4 : L 4 = false := up 4 3 rfl f3
   have f5 : L 5 = false := up 5 2 rfl hun
   have G := H; rw [f3, f4, f5] at G
   refine step_on rfl (d_move F (Or.inl rfl) rfl) ?_
   rintro xv w' ⟨hx, rfl⟩
   exact ⟨Cs hx, ⟨g3, c2, v1, Nf f3, Nf f4, Nf f3, H⟩⟩
  ·intro L A w up hun hd F ⟨g3, c2, v1, p3, p4, qc2, H⟩
   have f3 : L 3 = false := hun
   have f4 : L 4 = false := up 4 3 rfl hun
   have f5 : L 5 = false := up 5 3 rfl hun
   rw [f3, f4, f5] at H
   have H : Sx.Own w0 w ((false, g3, L110) :: (true, g1, [sL g2 0 1 c1]) :: bs) (⟨false, v1, 5, 1, 2, [iB 0, iB 1]⟩ :: ⟨true, sL g2 0 1 c1, 5, 1, 1, [iB 0]⟩ :: rs) K := H
   have H := H.pickN 2 2 [0, 1] [1]
   refine step_on rfl (Do if_89 F (cx5 H)) ?_
   rintro xv w' ⟨g4, c3, hbc3, hx, H⟩
   have H := H.padG [] [⟨false, v1, 5, 1, 2, [iB 0, iB 1]⟩] rfl rfl
   have H := H.pickN 3 2 [0, 2] [0, 1]
   exact ⟨Cn, ⟨g4, c3, v1, (fun _ => (Sx.put_same F (by decide) _).trans hx), Nf f4, (fun _ => by omega), (by show Sx.Own _ _ _ _ _; rw [show Inv.add L 3 4 = false from f4, show Inv.add L 3 5 = false from f5]; exact H)⟩⟩
  ·intro L A w up hun hd F ⟨g3, c2, v1, p3, p4, qc2, H⟩
   have t3 : L 3 = true := hd 3 rfl
   have f4 : L 4 = false := hun
   have f5 : L 5 = false := up 5 4 rfl hun
   rw [t3, f4, f5] at H
   have hbc2 := qc2 t3
   have F := Fr.add F (p3 t3)
   refine step_on rfl (d_appendW (i := 1) (news := [iB 1]) el_66 F H rfl rfl rfl rfl rfl (fun j u hu => Sx.box_part (news := [iB 1]) (H.box 0 g3 _ rfl).1 rfl j u hu) rfl rfl (by decide) (by decide)) ?_
   rintro xv w' ⟨v2, hx, H⟩
   have H := H.padG [] [⟨false, sL g2 0 1 c1, 5, 1, 1, [iB 0]⟩] rfl rfl
   have H := H.pickN 2 3 [0, 1] [2, 0]
   exact ⟨Cn, ⟨g3, c2, v2, Pk p3, (fun _ => (Sx.put_same F (by decide) _).trans hx), qc2, (by show Sx.Own _ _ _ _ _; rw [show Inv.add L 4 3 = true from t3, show Inv.add L 4 5 = false from f5]; exact H)⟩⟩
  ·intro L A w up hun hd F ⟨g3, c2, v1, p3, p4, qc2, H⟩
   have t3 : L 3 = true := hd 3 rfl
   have t4 : L 4 = true := hd 4 rfl
   have f5 : L 5 = false := hun
   rw [t3, t4, f5] at H
   have hbc2 := qc2 t3
   have F := Fr.add F (p3 t3)
   have F := Fr.add F (p4 t4)
   refine step_on rfl (d_store (i := 1) (xs := [v1]) (us := [v1]) sz_66 F H rfl rfl rfl (by obtain ⟨_, _, hv0⟩ := Sx.len_of (k := 2) (v := v1) (rowEq (H.row 0 _ rfl rfl) rfl rfl rfl rfl rfl); rw [hv0]; rfl) rfl (by obtain ⟨_, _, hv0⟩ := Sx.len_of (k := 2) (v := v1) (rowEq (H.row 0 _ rfl rfl) rfl rfl rfl rfl rfl); rw [hv0]; rfl) rfl (Nat.le_of_ble_eq_true rfl) rfl) ?_
   intro xv w' H
   exact ⟨Cn, ⟨g3, c2, v1, p3, p4, qc2, (by show Sx.Own _ _ _ _ _; rw [show Inv.add L 5 3 = true from t3, show Inv.add L 5 4 = true from t4]; exact H)⟩⟩
 ·intro L A w hL F ⟨g3, c2, v1, p3, p4, qc2, H⟩
  have t3 : L 3 = true := hL 3 rfl
  have t4 : L 4 = true := hL 4 rfl
  have t5 : L 5 = true := hL 5 rfl
  rw [t3, t4, t5] at H
  have F := Fr.add F (p3 t3)
  have F := Fr.add F (p4 t4)
  have hbc2 := qc2 t3
  have H := H.pickN 2 2 [0, 1] [0]
  have F := F.tq [] rfl
  obtain ⟨g5, c4, rfl, hbc4, hdc4⟩ := H.open (i := 0) rfl (by decide)
  try dsimp only [Exit.then, Exit.inBlock, Exit.jump, Exit.noGoto]
  refine Sx.end0 F Tryz.results88 ?_
  exact ⟨_, rfl, g5, c4, (by omega), rfl, H.pickN 2 1 [1] [0]⟩
set_option maxRecDepth 100000 in
abbrev L111 : List Value := [iB 0, iB 0, iB 0, iB 0, iB 0, iB 0, iB 0, iB 0, iB 0, iB 0, iB 0, iB 0, iB 0, iB 0, iB 0, iB 0]
theorem cx7   (H : Sx.Own w0 w (bs) (rs) K) : Cq 89 #[iU 0, iI 8] w fun x w' => ∃ g1 c1 : Nat, 16 ≤ c1 ∧ x = sL g1 0 8 c1 ∧ Sx.Own w0 w' ((true, g1, L111) :: bs) (rs) K := by
 refine En Tryz.func89 Tryz.ntmps89 fun A F => ?_
 refine Sp fun _ kk => Av F fun A F => ?_
 refine Nl kk (Sp fun _ kk => Av F fun A F => ?_)
 refine Zw F (d_call (vs := [iU 0]) (v := .agg #[iU 0, iU 0]) if_15 F H rfl rfl (Calls.val (v := L2) (Calls.val (wofV_c 0#64 _) (by kernel_rfl) (by kernel_rfl)) rfl (by kernel_rfl))) fun A w F H => ?_
 refine Zr (mk := fun v => v) F (d_callR (vs := [.agg #[iU 0, iU 0]]) (mk := fun v => v) if_90 F H rfl rfl (wput_c 0#128 _)) fun v1 A w F H => ?_
 have H := H.xs (i := 0) (ys := L111) rfl (by kernel_rfl)
 obtain ⟨g1, c1, rfl, hbc1, hdc1⟩ := H.open (i := 0) rfl (by decide)
 refine Av F fun A F => ?_
 have H := H.rowBox (i := 0) rfl
 refine Zv F (d_sliceH (h := 8) el_66 F rfl rfl rfl rfl (by omega)) fun A F => ?_
 refine Av F fun A F => ?_
 refine Nl kk (Wr (ret1 F Tryz.results89 (res_tmp F rfl) ?_))
 exact ⟨_, rfl, g1, c1, (by omega), rfl, H.pickN 1 1 [0] []⟩
set_option maxRecDepth 100000 in
abbrev L112 : List Value := [iB 0, iB 1, iB 0, iB 0, iB 0, iB 0, iB 0, iB 0, iB 0, iB 0]
abbrev L113 : List Sx.Bx := [(false, 0, [iB 0, iB 0, iB 0, iB 0, iB 0, iB 0, iB 0, iB 0, iB 0, iB 0, iB 0, iB 0, iB 0, iB 0, iB 0, iB 0])]
abbrev L114 : List Value := [iB 0, iB 0, iB 0, iB 0, iB 0, iB 0, iB 0, iB 0]
theorem cx8 {g1 g2 c1 : Nat} (hbc1 : 2 ≤ c1) (H : Sx.Own w0 w ((true, g1, [sL g2 0 2 c1]) :: bs) (⟨true, sL g2 0 2 c1, 5, 1, 2, [iB 0, iB 1]⟩ :: rs) K) : Cq 88 #[iU 0, iI 8, pT g1 0] w fun x w' => ∃ g5 c4 : Nat, 10 ≤ c4 ∧ x = .tuple #[] ∧ Sx.Own w0 w' ((true, g1, [sL g5 0 10 c4]) :: bs) (⟨true, sL g5 0 10 c4, 5, 1, 10, L112⟩ :: rs) K := by
 refine En Tryz.func88 Tryz.ntmps88 fun A F => ?_
 have F := F.tq [(0, iU 0), (1, iI 8), (2, pT g1 0)] rfl
 refine Dn F [some (sL g2 0 2 c1), some (iU 0), some (iI 8), none, none, none] (fun L A w => ∃ g3 : Nat, ∃ c2 : Nat, ∃ v1 : Value, (L 3 = true → A.eval (.tmp 8) = sL g3 0 8 c2) ∧ (L 4 = true → A.eval (.tmp 9) = v1) ∧ (L 3 = true → 16 ≤ c2) ∧ Sx.Own w0 w ((L 3, g3, L111) :: (true, g1, (cond (L 5) [v1] [sL g2 0 2 c1])) :: bs) (⟨L 4, v1, 5, 1, 10, L112⟩ :: ⟨cond (L 4) false (true), sL g2 0 2 c1, 5, 1, 2, [iB 0, iB 1]⟩ :: rs) K) ⟨0, 0, undef, (fun h => by cases h), (fun h => by cases h), (fun h => by cases h), H.drew.padG L113 [⟨false, undef, 5, 1, 10, L112⟩] rfl rfl⟩ ?_ ?_
 ·refine ⟨?_, ?_, ?_, ?_, ?_, ?_, trivial⟩
  ·intro L A w up hun hd F ⟨g3, c2, v1, p3, p4, qc2, H⟩
   have f4 : L 4 = false := up 4 0 rfl hun
   have f5 : L 5 = false := up 5 0 rfl hun
   have G := H; rw [f4, f5] at G
   refine step_on rfl (Ld 1 one_66 F G) ?_
   rintro xv w' ⟨hx, rfl⟩
   exact ⟨Cs hx, ⟨g3, c2, v1, Pk p3, Nf f4, qc2, H⟩⟩
  ·intro L A w up hun hd F ⟨g3, c2, v1, p3, p4, qc2, H⟩
   have f3 : L 3 = false := up 3 1 rfl hun
   have f4 : L 4 = false := up 4 3 rfl f3
   have f5 : L 5 = false := up 5 1 rfl hun
   have G := H; rw [f3, f4, f5] at G
   refine step_on rfl (d_move F (Or.inl rfl) rfl) ?_
   rintro xv w' ⟨hx, rfl⟩
   exact ⟨Cs hx, ⟨g3, c2, v1, Nf f3, Nf f4, Nf f3, H⟩⟩
  ·intro L A w up hun hd F ⟨g3, c2, v1, p3, p4, qc2, H⟩
   have f3 : L 3 = false := up 3 2 rfl hun
   have f4 : L 4 = false := up 4 3 rfl f3
   have f5 : L 5 = false := up 5 2 rfl hun
   have G := H; rw [f3, f4, f5] at G
   refine step_on rfl (d_move F (Or.inl rfl) rfl) ?_
   rintro xv w' ⟨hx, rfl⟩
   exact ⟨Cs hx, ⟨g3, c2, v1, Nf f3, Nf f4, Nf f3, H⟩⟩
  ·intro L A w up hun hd F ⟨g3, c2, v1, p3, p4, qc2, H⟩
   have f3 : L 3 = false := hun
   have f4 : L 4 = false := up 4 3 rfl hun
   have f5 : L 5 = false := up 5 3 rfl hun
   rw [f3, f4, f5] at H
   have H : Sx.Own w0 w ((false, g3, L111) :: (true, g1, [sL g2 0 2 c1]) :: bs) (⟨false, v1, 5, 1, 10, L112⟩ :: ⟨true, sL g2 0 2 c1, 5, 1, 2, [iB 0, iB 1]⟩ :: rs) K := H
   have H := H.pickN 2 2 [0, 1] [1]
   refine step_on rfl (Do if_89 F (cx7 H)) ?_
   rintro xv w' ⟨g4, c3, hbc3, hx, H⟩
   have H := H.padG [] [⟨false, v1, 5, 1, 10, L112⟩] rfl rfl
   have H := H.pickN 3 2 [0, 2] [0, 1]
   exact ⟨Cn, ⟨g4, c3, v1, (fun _ => (Sx.put_same F (by decide) _).trans hx), Nf f4, (fun _ => by omega), (by show Sx.Own _ _ _ _ _; rw [show Inv.add L 3 4 = false from f4, show Inv.add L 3 5 = false from f5]; exact H)⟩⟩
  ·intro L A w up hun hd F ⟨g3, c2, v1, p3, p4, qc2, H⟩
   have t3 : L 3 = true := hd 3 rfl
   have f4 : L 4 = false := hun
   have f5 : L 5 = false := up 5 4 rfl hun
   rw [t3, f4, f5] at H
   have hbc2 := qc2 t3
   have F := Fr.add F (p3 t3)
   refine step_on rfl (d_appendW (i := 1) (news := L114) el_66 F H rfl rfl rfl rfl rfl (fun j u hu => Sx.box_part (news := L114) (H.box 0 g3 _ rfl).1 rfl j u hu) rfl rfl (by decide) (by decide)) ?_
   rintro xv w' ⟨v2, hx, H⟩
   have H := H.padG [] [⟨false, sL g2 0 2 c1, 5, 1, 2, [iB 0, iB 1]⟩] rfl rfl
   have H := H.pickN 2 3 [0, 1] [2, 0]
   exact ⟨Cn, ⟨g3, c2, v2, Pk p3, (fun _ => (Sx.put_same F (by decide) _).trans hx), qc2, (by show Sx.Own _ _ _ _ _; rw [show Inv.add L 4 3 = true from t3, show Inv.add L 4 5 = false from f5]; exact H)⟩⟩
  ·intro L A w up hun hd F ⟨g3, c2, v1, p3, p4, qc2, H⟩
   have t3 : L 3 = true := hd 3 rfl
   have t4 : L 4 = true := hd 4 rfl
   have f5 : L 5 = false := hun
   rw [t3, t4, f5] at H
   have hbc2 := qc2 t3
   have F := Fr.add F (p3 t3)
   have F := Fr.add F (p4 t4)
   refine step_on rfl (d_store (i := 1) (xs := [v1]) (us := [v1]) sz_66 F H rfl rfl rfl (by obtain ⟨_, _, hv0⟩ := Sx.len_of (k := 10) (v := v1) (rowEq (H.row 0 _ rfl rfl) rfl rfl rfl rfl rfl); rw [hv0]; rfl) rfl (by obtain ⟨_, _, hv0⟩ := Sx.len_of (k := 10) (v := v1) (rowEq (H.row 0 _ rfl rfl) rfl rfl rfl rfl rfl); rw [hv0]; rfl) rfl (Nat.le_of_ble_eq_true rfl) rfl) ?_
   intro xv w' H
   exact ⟨Cn, ⟨g3, c2, v1, p3, p4, qc2, (by show Sx.Own _ _ _ _ _; rw [show Inv.add L 5 3 = true from t3, show Inv.add L 5 4 = true from t4]; exact H)⟩⟩
 ·intro L A w hL F ⟨g3, c2, v1, p3, p4, qc2, H⟩
  have t3 : L 3 = true := hL 3 rfl
  have t4 : L 4 = true := hL 4 rfl
  have t5 : L 5 = true := hL 5 rfl
  rw [t3, t4, t5] at H
  have F := Fr.add F (p3 t3)
  have F := Fr.add F (p4 t4)
  have hbc2 := qc2 t3
  have H := H.pickN 2 2 [0, 1] [0]
  have F := F.tq [] rfl
  obtain ⟨g5, c4, rfl, hbc4, hdc4⟩ := H.open (i := 0) rfl (by decide)
  try dsimp only [Exit.then, Exit.inBlock, Exit.jump, Exit.noGoto]
  refine Sx.end0 F Tryz.results88 ?_
  exact ⟨_, rfl, g5, c4, (by omega), rfl, H.pickN 2 1 [1] [0]⟩
set_option maxRecDepth 100000 in
theorem cx9   (H : Sx.Own w0 w (bs) (rs) K) : Cq 60 #[L105] w fun x w' => ∃ g5 c3 : Nat, 10 ≤ c3 ∧ x = sL g5 0 10 c3 ∧ Sx.Own w0 w' (bs) (⟨true, sL g5 0 10 c3, 5, 1, 10, L112⟩ :: rs) K := by
 refine En Tryz.func60 Tryz.ntmps60 fun A F => ?_
 refine Sp fun _ kk => Zb F (d_box F H rfl rfl L106 rfl) fun g1 A w F H => ?_
 refine Av F fun A F => ?_
 refine Nl kk (Sp fun _ kk => ?_)
 iterate 2 (refine Av F ?_; intro A F)
 refine Zv F (d_conv (v := iB 0) F rfl rfl (by kernel_rfl)) fun A F => ?_
 refine Zr (mk := fun v => v) F (d_litR (qs := #[(0, iB 0)]) (cs := #[iB 0]) (E := 5) (z := 1) F H rfl rfl (fun _ => by kernel_rfl) rfl (by decide)) fun v1 A w F H => ?_
 obtain ⟨g2, c1, rfl, hbc1, hdc1⟩ := H.open (i := 0) rfl (by decide)
 refine Zb F (d_alloc H rfl [nS] zero_66) fun g3 A w F H => ?_
 refine Zs 0 [sL g2 0 1 c1] sz_66 F H fun A w F H => ?_
 refine Nl kk (Sp fun _ kk => Zv F (d_mkFunc (fv := []) (cv := [pT g3 0]) F rfl rfl rfl) fun A F => ?_)
 refine Av F fun A F => ?_
 refine Nl kk (Sx.seq fun K4 hK4 => Sp fun _ kk => ?_)
 iterate 2 (refine Av F ?_; intro A F)
 refine Nl kk (wp_block (Sp fun _ kk => ?_))
 iterate 2 (refine Av F ?_; intro A F)
 refine Nl kk (condT F rfl (Sp fun _ kk => ?_))
 iterate 3 (refine Av F ?_; intro A F)
 refine Zv F (d_conv (v := iU 1) F rfl rfl (by kernel_rfl)) fun A F => ?_
 refine Zx F (d_callCO (fv := []) (vs := [iU 1, iI 1]) (cv := [pT g3 0]) if_88 F rfl rfl rfl (cx6 (by omega) H)) ?_
 rintro _ w ⟨g4, c2, hbc2, rfl, H⟩ A F
 refine Nl kk (Sx.plain ?_)
 iterate 3 (refine Av F ?_; intro A F)
 refine Zx F (d_callCO (fv := []) (vs := [iU 0, iI 8]) (cv := [pT g3 0]) if_88 F rfl rfl rfl (cx8 (by omega) H)) ?_
 rintro _ w ⟨g5, c3, hbc3, rfl, H⟩ A F
 refine Sx.nil (hK4 _ _ (Sx.seq fun K8 hK8 => Sp fun _ kk => ?_))
 iterate 2 (refine Av F ?_; intro A F)
 refine Nl kk (wp_block (Sx.seq fun K10 hK10 => Sp fun _ kk => ?_))
 iterate 2 (refine Av F ?_; intro A F)
 refine Nl kk (condF F rfl (Sx.plain ?_))
 iterate 2 (refine Av F ?_; intro A F)
 refine Sx.nil (hK10 _ _ (condF F rfl (Sp fun _ kk => ?_)))
 iterate 2 (refine Av F ?_; intro A F)
 refine Nl kk (condF F rfl (Sp fun _ kk => ?_))
 iterate 2 (refine Av F ?_; intro A F)
 refine Nl kk (condF F rfl (wp_skip (hK8 _ _ (Sp fun _ kk => ?_))))
 iterate 2 (refine Av F ?_; intro A F)
 refine Nl kk (Wr (ret1 F Tryz.results60 (res_tmp F rfl) ?_))
 exact ⟨_, rfl, g5, c3, (by omega), rfl, H.pickN 2 1 [] [0]⟩
set_option maxRecDepth 100000 in
abbrev L115 : Value := .agg #[iI 1, iI 0, iI 0, iI 0, iU 0, iU 0, iU 0, iU 0, nS]
abbrev L116 : List Value := [iI 1, iI 0, iI 0, iI 0, iU 0, iU 0, iU 0, iU 0, nS]
theorem cx10   (H : Sx.Own w0 w (bs) (rs) K) : Cq 86 #[L115] w fun x w' => x = .tuple #[L115, bT] ∧ Sx.Own w0 w' (bs) (rs) K := by
 refine En Tryz.func86 Tryz.ntmps86 fun A F => ?_
 refine Sp fun _ kk => Zb F (d_box F H rfl rfl L116 rfl) fun g1 A w F H => ?_
 refine Zb F (d_alloc H rfl L107 zero_71) fun g2 A w F H => ?_
 refine Av F fun A F => ?_
 refine Nl kk (Sp fun _ kk => ?_)
 iterate 2 (refine Av F ?_; intro A F)
 refine Zv F (d_build (qs := #[(0, iI 1)]) (v := L115) F rfl rfl (by kernel_rfl)) fun A F => ?_
 refine Zb F (d_alloc H rfl L107 zero_71) fun g3 A w F H => ?_
 refine Zs 0 L116 sz_71 F H fun A w F H => ?_
 refine Nl kk (Sx.seq fun K3 hK3 => Sp fun _ kk => ?_)
 iterate 2 (refine Av F ?_; intro A F)
 refine Nl kk (wp_block (Sp fun _ kk => ?_))
 iterate 2 (refine Av F ?_; intro A F)
 refine Nl kk (condF F rfl (Sx.seq fun K6 hK6 => Sp fun _ kk => ?_))
 iterate 2 (refine Av F ?_; intro A F)
 refine Nl kk (condT F rfl (wp_skip (hK6 _ _ (condT F rfl (Sx.plain ?_)))))
 iterate 3 (refine Av F ?_; intro A F)
 refine Zs 0 L116 sz_3 F H fun A w F H => ?_
 refine Sx.nil (hK3 _ _ (Sp fun _ kk => Av F fun A F => ?_))
 refine Zs 1 L116 sz_71 F H fun A w F H => ?_
 refine Av F fun A F => ?_
 refine Nl kk (Wr (ret2 F Tryz.results86 (res_row (i := 1) (xs := L116) rw_71 F H rfl rfl rfl rfl) (res_tmp F rfl) ?_))
 exact ⟨_, rfl, rfl, H.pickN 3 0 [] []⟩
set_option maxRecDepth 100000 in
theorem cx11   (H : Sx.Own w0 w (bs) (rs) K) : Cq 87 #[iI 0, iI 255] w fun x w' => x = bT ∧ Sx.Own w0 w' (bs) (rs) K := by
 refine En Tryz.func87 Tryz.ntmps87 fun A F => ?_
 refine Sp fun _ kk => Av F fun A F => ?_
 refine Nl kk (Sp fun _ kk => ?_)
 iterate 8 (refine Av F ?_; intro A F)
 refine Nl kk (Wr (ret1 F Tryz.results87 (res_tmp F rfl) ?_))
 exact ⟨_, rfl, rfl, H.pickN 0 0 [] []⟩
set_option maxRecDepth 100000 in
theorem cx12   (H : Sx.Own w0 w (bs) (rs) K) : Cq 59 #[L115] w fun x w' => x = iI 0 ∧ Sx.Own w0 w' (bs) (rs) K := by
 refine En Tryz.func59 Tryz.ntmps59 fun A F => ?_
 refine Sp fun _ kk => Zb F (d_box F H rfl rfl L116 rfl) fun g1 A w F H => ?_
 refine Av F fun A F => ?_
 refine Nl kk (Sp fun _ kk => Av F fun A F => ?_)
 refine Zx F (Do if_86 F (cx10 H)) ?_
 rintro _ w ⟨rfl, H⟩ A F
 iterate 3 (refine Av F ?_; intro A F)
 refine Zb F (d_alloc H rfl L107 zero_71) fun g2 A w F H => ?_
 refine Zs 0 L116 sz_71 F H fun A w F H => ?_
 refine Av F fun A F => ?_
 refine Nl kk (Sp fun _ kk => ?_)
 iterate 38 (refine Av F ?_; intro A F)
 refine Zn bT F fun A F => ?_
 iterate 4 (refine Av F ?_; intro A F)
 refine Zv F (d_lenS el_66 F rfl rfl) fun A F => ?_
 iterate 2 (refine Av F ?_; intro A F)
 refine Zv F (d_lenS el_66 F rfl rfl) fun A F => ?_
 iterate 3 (refine Av F ?_; intro A F)
 refine Nl kk (Sx.seq fun K4 hK4 => Sp fun _ kk => Av F fun A F => ?_)
 refine Zv F (d_un (v := bF) F rfl rfl rfl) fun A F => ?_
 iterate 2 (refine Av F ?_; intro A F)
 refine Zv F (d_un (v := bF) F rfl rfl rfl) fun A F => ?_
 iterate 4 (refine Av F ?_; intro A F)
 refine Zx F (Do if_87 F (cx2 H)) ?_
 rintro _ w ⟨rfl, H⟩ A F
 refine Zv F (d_un (v := bF) F rfl rfl rfl) fun A F => ?_
 iterate 4 (refine Av F ?_; intro A F)
 refine Zx F (Do if_87 F (cx2 H)) ?_
 rintro _ w ⟨rfl, H⟩ A F
 refine Zv F (d_un (v := bF) F rfl rfl rfl) fun A F => ?_
 iterate 4 (refine Av F ?_; intro A F)
 refine Zx F (Do if_87 F (cx11 H)) ?_
 rintro _ w ⟨rfl, H⟩ A F
 refine Zv F (d_un (v := bF) F rfl rfl rfl) fun A F => ?_
 iterate 4 (refine Av F ?_; intro A F)
 refine Zv F (d_lenS el_66 F rfl rfl) fun A F => ?_
 iterate 2 (refine Av F ?_; intro A F)
 refine Nl kk (condF F rfl (wp_skip (hK4 _ _ (Sp fun _ kk => Av F fun A F => ?_))))
 refine Nl kk (Wr (ret1 F Tryz.results59 (res_tmp F rfl) ?_))
 exact ⟨_, rfl, rfl, H.pickN 2 0 [] []⟩
set_option maxRecDepth 100000 in
theorem cx13   (H : Sx.Own w0 w (bs) (rs) K) : Cq 89 #[iU 0, iI 2] w fun x w' => ∃ g1 c1 : Nat, 16 ≤ c1 ∧ x = sL g1 0 2 c1 ∧ Sx.Own w0 w' ((true, g1, L111) :: bs) (rs) K := by
 refine En Tryz.func89 Tryz.ntmps89 fun A F => ?_
 refine Sp fun _ kk => Av F fun A F => ?_
 refine Nl kk (Sp fun _ kk => Av F fun A F => ?_)
 refine Zw F (d_call (vs := [iU 0]) (v := .agg #[iU 0, iU 0]) if_15 F H rfl rfl (Calls.val (v := L2) (Calls.val (wofV_c 0#64 _) (by kernel_rfl) (by kernel_rfl)) rfl (by kernel_rfl))) fun A w F H => ?_
 refine Zr (mk := fun v => v) F (d_callR (vs := [.agg #[iU 0, iU 0]]) (mk := fun v => v) if_90 F H rfl rfl (wput_c 0#128 _)) fun v1 A w F H => ?_
 have H := H.xs (i := 0) (ys := L111) rfl (by kernel_rfl)
 obtain ⟨g1, c1, rfl, hbc1, hdc1⟩ := H.open (i := 0) rfl (by decide)
 refine Av F fun A F => ?_
 have H := H.rowBox (i := 0) rfl
 refine Zv F (d_sliceH (h := 2) el_66 F rfl rfl rfl rfl (by omega)) fun A F => ?_
 refine Av F fun A F => ?_
 refine Nl kk (Wr (ret1 F Tryz.results89 (res_tmp F rfl) ?_))
 exact ⟨_, rfl, g1, c1, (by omega), rfl, H.pickN 1 1 [0] []⟩
set_option maxRecDepth 100000 in
theorem cx14 {g1 g2 c1 : Nat} (hbc1 : 1 ≤ c1) (H : Sx.Own w0 w ((true, g1, [sL g2 0 1 c1]) :: bs) (⟨true, sL g2 0 1 c1, 5, 1, 1, [iB 1]⟩ :: rs) K) : Cq 88 #[iU 0, iI 2, pT g1 0] w fun x w' => ∃ g5 c4 : Nat, 3 ≤ c4 ∧ x = .tuple #[] ∧ Sx.Own w0 w' ((true, g1, [sL g5 0 3 c4]) :: bs) (⟨true, sL g5 0 3 c4, 5, 1, 3, [iB 1, iB 0, iB 0]⟩ :: rs) K := by
 refine En Tryz.func88 Tryz.ntmps88 fun A F => ?_
 have F := F.tq [(0, iU 0), (1, iI 2), (2, pT g1 0)] rfl
 refine Dn F [some (sL g2 0 1 c1), some (iU 0), some (iI 2), none, none, none] (fun L A w => ∃ g3 : Nat, ∃ c2 : Nat, ∃ v1 : Value, (L 3 = true → A.eval (.tmp 8) = sL g3 0 2 c2) ∧ (L 4 = true → A.eval (.tmp 9) = v1) ∧ (L 3 = true → 16 ≤ c2) ∧ Sx.Own w0 w ((L 3, g3, L111) :: (true, g1, (cond (L 5) [v1] [sL g2 0 1 c1])) :: bs) (⟨L 4, v1, 5, 1, 3, [iB 1, iB 0, iB 0]⟩ :: ⟨cond (L 4) false (true), sL g2 0 1 c1, 5, 1, 1, [iB 1]⟩ :: rs) K) ⟨0, 0, undef, (fun h => by cases h), (fun h => by cases h), (fun h => by cases h), H.drew.padG L113 [⟨false, undef, 5, 1, 3, [iB 1, iB 0, iB 0]⟩] rfl rfl⟩ ?_ ?_
 ·refine ⟨?_, ?_, ?_, ?_, ?_, ?_, trivial⟩
  ·intro L A w up hun hd F ⟨g3, c2, v1, p3, p4, qc2, H⟩
   have f4 : L 4 = false := up 4 0 rfl hun
   have f5 : L 5 = false := up 5 0 rfl hun
   have G := H; rw [f4, f5] at G
   refine step_on rfl (Ld 1 one_66 F G) ?_
   rintro xv w' ⟨hx, rfl⟩
   exact ⟨Cs hx, ⟨g3, c2, v1, Pk p3, Nf f4, qc2, H⟩⟩
  ·intro L A w up hun hd F ⟨g3, c2, v1, p3, p4, qc2, H⟩
   have f3 : L 3 = false := up 3 1 rfl hun
   have f4 : L 4 = false := up 4 3 rfl f3
   have f5 : L 5 = false := up 5 1 rfl hun
   have G := H; rw [f3, f4, f5] at G
   refine step_on rfl (d_move F (Or.inl rfl) rfl) ?_
   rintro xv w' ⟨hx, rfl⟩
   exact ⟨Cs hx, ⟨g3, c2, v1, Nf f3, Nf f4, Nf f3, H⟩⟩
  ·intro L A w up hun hd F ⟨g3, c2, v1, p3, p4, qc2, H⟩
   have f3 : L 3 = false := up 3 2 rfl hun
   have f4 : L 4 = false := up 4 3 rfl f3
   have f5 : L 5 = false := up 5 2 rfl hun
   have G := H; rw [f3, f4, f5] at G
   refine step_on rfl (d_move F (Or.inl rfl) rfl) ?_
   rintro xv w' ⟨hx, rfl⟩
   exact ⟨Cs hx, ⟨g3, c2, v1, Nf f3, Nf f4, Nf f3, H⟩⟩
  ·intro L A w up hun hd F ⟨g3, c2, v1, p3, p4, qc2, H⟩
   have f3 : L 3 = false := hun
   have f4 : L 4 = false := up 4 3 rfl hun
   have f5 : L 5 = false := up 5 3 rfl hun
   rw [f3, f4, f5] at H
   have H : Sx.Own w0 w ((false, g3, L111) :: (true, g1, [sL g2 0 1 c1]) :: bs) (⟨false, v1, 5, 1, 3, [iB 1, iB 0, iB 0]⟩ :: ⟨true, sL g2 0 1 c1, 5, 1, 1, [iB 1]⟩ :: rs) K := H
   have H := H.pickN 2 2 [0, 1] [1]
   refine step_on rfl (Do if_89 F (cx13 H)) ?_
   rintro xv w' ⟨g4, c3, hbc3, hx, H⟩
   have H := H.padG [] [⟨false, v1, 5, 1, 3, [iB 1, iB 0, iB 0]⟩] rfl rfl
   have H := H.pickN 3 2 [0, 2] [0, 1]
   exact ⟨Cn, ⟨g4, c3, v1, (fun _ => (Sx.put_same F (by decide) _).trans hx), Nf f4, (fun _ => by omega), (by show Sx.Own _ _ _ _ _; rw [show Inv.add L 3 4 = false from f4, show Inv.add L 3 5 = false from f5]; exact H)⟩⟩
  ·intro L A w up hun hd F ⟨g3, c2, v1, p3, p4, qc2, H⟩
   have t3 : L 3 = true := hd 3 rfl
   have f4 : L 4 = false := hun
   have f5 : L 5 = false := up 5 4 rfl hun
   rw [t3, f4, f5] at H
   have hbc2 := qc2 t3
   have F := Fr.add F (p3 t3)
   refine step_on rfl (d_appendW (i := 1) (news := [iB 0, iB 0]) el_66 F H rfl rfl rfl rfl rfl (fun j u hu => Sx.box_part (news := [iB 0, iB 0]) (H.box 0 g3 _ rfl).1 rfl j u hu) rfl rfl (by decide) (by decide)) ?_
   rintro xv w' ⟨v2, hx, H⟩
   have H := H.padG [] [⟨false, sL g2 0 1 c1, 5, 1, 1, [iB 1]⟩] rfl rfl
   have H := H.pickN 2 3 [0, 1] [2, 0]
   exact ⟨Cn, ⟨g3, c2, v2, Pk p3, (fun _ => (Sx.put_same F (by decide) _).trans hx), qc2, (by show Sx.Own _ _ _ _ _; rw [show Inv.add L 4 3 = true from t3, show Inv.add L 4 5 = false from f5]; exact H)⟩⟩
  ·intro L A w up hun hd F ⟨g3, c2, v1, p3, p4, qc2, H⟩
   have t3 : L 3 = true := hd 3 rfl
   have t4 : L 4 = true := hd 4 rfl
   have f5 : L 5 = false := hun
   rw [t3, t4, f5] at H
   have hbc2 := qc2 t3
   have F := Fr.add F (p3 t3)
   have F := Fr.add F (p4 t4)
   refine step_on rfl (d_store (i := 1) (xs := [v1]) (us := [v1]) sz_66 F H rfl rfl rfl (by obtain ⟨_, _, hv0⟩ := Sx.len_of (k := 3) (v := v1) (rowEq (H.row 0 _ rfl rfl) rfl rfl rfl rfl rfl); rw [hv0]; rfl) rfl (by obtain ⟨_, _, hv0⟩ := Sx.len_of (k := 3) (v := v1) (rowEq (H.row 0 _ rfl rfl) rfl rfl rfl rfl rfl); rw [hv0]; rfl) rfl (Nat.le_of_ble_eq_true rfl) rfl) ?_
   intro xv w' H
   exact ⟨Cn, ⟨g3, c2, v1, p3, p4, qc2, (by show Sx.Own _ _ _ _ _; rw [show Inv.add L 5 3 = true from t3, show Inv.add L 5 4 = true from t4]; exact H)⟩⟩
 ·intro L A w hL F ⟨g3, c2, v1, p3, p4, qc2, H⟩
  have t3 : L 3 = true := hL 3 rfl
  have t4 : L 4 = true := hL 4 rfl
  have t5 : L 5 = true := hL 5 rfl
  rw [t3, t4, t5] at H
  have F := Fr.add F (p3 t3)
  have F := Fr.add F (p4 t4)
  have hbc2 := qc2 t3
  have H := H.pickN 2 2 [0, 1] [0]
  have F := F.tq [] rfl
  obtain ⟨g5, c4, rfl, hbc4, hdc4⟩ := H.open (i := 0) rfl (by decide)
  try dsimp only [Exit.then, Exit.inBlock, Exit.jump, Exit.noGoto]
  refine Sx.end0 F Tryz.results88 ?_
  exact ⟨_, rfl, g5, c4, (by omega), rfl, H.pickN 2 1 [1] [0]⟩
set_option maxRecDepth 100000 in
theorem cx15   (H : Sx.Own w0 w (bs) (rs) K) : Cq 60 #[L115] w fun x w' => ∃ g4 c2 : Nat, 3 ≤ c2 ∧ x = sL g4 0 3 c2 ∧ Sx.Own w0 w' (bs) (⟨true, sL g4 0 3 c2, 5, 1, 3, [iB 1, iB 0, iB 0]⟩ :: rs) K := by
 refine En Tryz.func60 Tryz.ntmps60 fun A F => ?_
 refine Sp fun _ kk => Zb F (d_box F H rfl rfl L116 rfl) fun g1 A w F H => ?_
 refine Av F fun A F => ?_
 refine Nl kk (Sp fun _ kk => ?_)
 iterate 2 (refine Av F ?_; intro A F)
 refine Zv F (d_conv (v := iB 1) F rfl rfl (by kernel_rfl)) fun A F => ?_
 refine Zr (mk := fun v => v) F (d_litR (qs := #[(0, iB 1)]) (cs := #[iB 1]) (E := 5) (z := 1) F H rfl rfl (fun _ => by kernel_rfl) rfl (by decide)) fun v1 A w F H => ?_
 obtain ⟨g2, c1, rfl, hbc1, hdc1⟩ := H.open (i := 0) rfl (by decide)
 refine Zb F (d_alloc H rfl [nS] zero_66) fun g3 A w F H => ?_
 refine Zs 0 [sL g2 0 1 c1] sz_66 F H fun A w F H => ?_
 refine Nl kk (Sp fun _ kk => Zv F (d_mkFunc (fv := []) (cv := [pT g3 0]) F rfl rfl rfl) fun A F => ?_)
 refine Av F fun A F => ?_
 refine Nl kk (Sx.seq fun K4 hK4 => Sp fun _ kk => ?_)
 iterate 2 (refine Av F ?_; intro A F)
 refine Nl kk (wp_block (Sp fun _ kk => ?_))
 iterate 2 (refine Av F ?_; intro A F)
 refine Nl kk (condF F rfl (Sp fun _ kk => ?_))
 iterate 2 (refine Av F ?_; intro A F)
 refine Nl kk (condF F rfl (Sp fun _ kk => ?_))
 iterate 2 (refine Av F ?_; intro A F)
 refine Nl kk (condF F rfl (Sx.plain ?_))
 iterate 3 (refine Av F ?_; intro A F)
 refine Zv F (d_conv (v := iU 0) F rfl rfl (by kernel_rfl)) fun A F => ?_
 refine Zx F (d_callCO (fv := []) (vs := [iU 0, iI 2]) (cv := [pT g3 0]) if_88 F rfl rfl rfl (cx14 (by omega) H)) ?_
 rintro _ w ⟨g4, c2, hbc2, rfl, H⟩ A F
 refine Sx.nil (hK4 _ _ (Sx.seq fun K9 hK9 => Sp fun _ kk => ?_))
 iterate 2 (refine Av F ?_; intro A F)
 refine Nl kk (wp_block (Sx.seq fun K11 hK11 => Sp fun _ kk => ?_))
 iterate 2 (refine Av F ?_; intro A F)
 refine Nl kk (condF F rfl (Sx.plain ?_))
 iterate 2 (refine Av F ?_; intro A F)
 refine Sx.nil (hK11 _ _ (condF F rfl (Sp fun _ kk => ?_)))
 iterate 2 (refine Av F ?_; intro A F)
 refine Nl kk (condF F rfl (Sp fun _ kk => ?_))
 iterate 2 (refine Av F ?_; intro A F)
 refine Nl kk (condF F rfl (wp_skip (hK9 _ _ (Sp fun _ kk => ?_))))
 iterate 2 (refine Av F ?_; intro A F)
 refine Nl kk (Wr (ret1 F Tryz.results60 (res_tmp F rfl) ?_))
 exact ⟨_, rfl, g4, c2, (by omega), rfl, H.pickN 2 1 [] [0]⟩
set_option maxRecDepth 100000 in
abbrev L117 : Value := .agg #[iI 3, iI 0, iI 0, iI 0, iU 0, iU 0, iU 0, iU 0, nS]
abbrev L118 : List Value := [iI 3, iI 0, iI 0, iI 0, iU 0, iU 0, iU 0, iU 0, nS]
theorem cx16   (H : Sx.Own w0 w (bs) (rs) K) : Cq 86 #[L117] w fun x w' => x = .tuple #[L117, bT] ∧ Sx.Own w0 w' (bs) (rs) K := by
 refine En Tryz.func86 Tryz.ntmps86 fun A F => ?_
 refine Sp fun _ kk => Zb F (d_box F H rfl rfl L118 rfl) fun g1 A w F H => ?_
 refine Zb F (d_alloc H rfl L107 zero_71) fun g2 A w F H => ?_
 refine Av F fun A F => ?_
 refine Nl kk (Sp fun _ kk => ?_)
 iterate 2 (refine Av F ?_; intro A F)
 refine Zv F (d_build (qs := #[(0, iI 3)]) (v := L117) F rfl rfl (by kernel_rfl)) fun A F => ?_
 refine Zb F (d_alloc H rfl L107 zero_71) fun g3 A w F H => ?_
 refine Zs 0 L118 sz_71 F H fun A w F H => ?_
 refine Nl kk (Sx.seq fun K3 hK3 => Sp fun _ kk => ?_)
 iterate 2 (refine Av F ?_; intro A F)
 refine Nl kk (wp_block (Sp fun _ kk => ?_))
 iterate 2 (refine Av F ?_; intro A F)
 refine Nl kk (condF F rfl (Sx.seq fun K6 hK6 => Sp fun _ kk => ?_))
 iterate 2 (refine Av F ?_; intro A F)
 refine Nl kk (condF F rfl (Sp fun _ kk => ?_))
 iterate 2 (refine Av F ?_; intro A F)
 refine Nl kk (condF F rfl (Sx.plain ?_))
 iterate 2 (refine Av F ?_; intro A F)
 refine Sx.nil (hK6 _ _ (condT F rfl (Sx.plain ?_)))
 iterate 3 (refine Av F ?_; intro A F)
 refine Zs 0 L118 sz_3 F H fun A w F H => ?_
 refine Sx.nil (hK3 _ _ (Sp fun _ kk => Av F fun A F => ?_))
 refine Zs 1 L118 sz_71 F H fun A w F H => ?_
 refine Av F fun A F => ?_
 refine Nl kk (Wr (ret2 F Tryz.results86 (res_row (i := 1) (xs := L118) rw_71 F H rfl rfl rfl rfl) (res_tmp F rfl) ?_))
 exact ⟨_, rfl, rfl, H.pickN 3 0 [] []⟩
set_option maxRecDepth 100000 in
theorem cx17   (H : Sx.Own w0 w (bs) (rs) K) : Cq 59 #[L117] w fun x w' => x = iI 0 ∧ Sx.Own w0 w' (bs) (rs) K := by
 refine En Tryz.func59 Tryz.ntmps59 fun A F => ?_
 refine Sp fun _ kk => Zb F (d_box F H rfl rfl L118 rfl) fun g1 A w F H => ?_
 refine Av F fun A F => ?_
 refine Nl kk (Sp fun _ kk => Av F fun A F => ?_)
 refine Zx F (Do if_86 F (cx16 H)) ?_
 rintro _ w ⟨rfl, H⟩ A F
 iterate 3 (refine Av F ?_; intro A F)
 refine Zb F (d_alloc H rfl L107 zero_71) fun g2 A w F H => ?_
 refine Zs 0 L118 sz_71 F H fun A w F H => ?_
 refine Av F fun A F => ?_
 refine Nl kk (Sp fun _ kk => ?_)
 iterate 38 (refine Av F ?_; intro A F)
 refine Zn bT F fun A F => ?_
 iterate 4 (refine Av F ?_; intro A F)
 refine Zv F (d_lenS el_66 F rfl rfl) fun A F => ?_
 iterate 2 (refine Av F ?_; intro A F)
 refine Zv F (d_lenS el_66 F rfl rfl) fun A F => ?_
 iterate 3 (refine Av F ?_; intro A F)
 refine Nl kk (Sx.seq fun K4 hK4 => Sp fun _ kk => Av F fun A F => ?_)
 refine Zv F (d_un (v := bF) F rfl rfl rfl) fun A F => ?_
 iterate 2 (refine Av F ?_; intro A F)
 refine Zv F (d_un (v := bF) F rfl rfl rfl) fun A F => ?_
 iterate 4 (refine Av F ?_; intro A F)
 refine Zx F (Do if_87 F (cx2 H)) ?_
 rintro _ w ⟨rfl, H⟩ A F
 refine Zv F (d_un (v := bF) F rfl rfl rfl) fun A F => ?_
 iterate 4 (refine Av F ?_; intro A F)
 refine Zx F (Do if_87 F (cx2 H)) ?_
 rintro _ w ⟨rfl, H⟩ A F
 refine Zv F (d_un (v := bF) F rfl rfl rfl) fun A F => ?_
 iterate 4 (refine Av F ?_; intro A F)
 refine Zx F (Do if_87 F (cx11 H)) ?_
 rintro _ w ⟨rfl, H⟩ A F
 refine Zv F (d_un (v := bF) F rfl rfl rfl) fun A F => ?_
 iterate 4 (refine Av F ?_; intro A F)
 refine Zv F (d_lenS el_66 F rfl rfl) fun A F => ?_
 iterate 2 (refine Av F ?_; intro A F)
 refine Nl kk (condF F rfl (wp_skip (hK4 _ _ (Sp fun _ kk => Av F fun A F => ?_))))
 refine Nl kk (Wr (ret1 F Tryz.results59 (res_tmp F rfl) ?_))
 exact ⟨_, rfl, rfl, H.pickN 2 0 [] []⟩
set_option maxRecDepth 100000 in
theorem cx18 {g1 g2 c1 : Nat} (hbc1 : 1 ≤ c1) (H : Sx.Own w0 w ((true, g1, [sL g2 0 1 c1]) :: bs) (⟨true, sL g2 0 1 c1, 5, 1, 1, [iB 3]⟩ :: rs) K) : Cq 88 #[iU 0, iI 2, pT g1 0] w fun x w' => ∃ g5 c4 : Nat, 3 ≤ c4 ∧ x = .tuple #[] ∧ Sx.Own w0 w' ((true, g1, [sL g5 0 3 c4]) :: bs) (⟨true, sL g5 0 3 c4, 5, 1, 3, [iB 3, iB 0, iB 0]⟩ :: rs) K := by
 refine En Tryz.func88 Tryz.ntmps88 fun A F => ?_
 have F := F.tq [(0, iU 0), (1, iI 2), (2, pT g1 0)] rfl
 refine Dn F [some (sL g2 0 1 c1), some (iU 0), some (iI 2), none, none, none] (fun L A w => ∃ g3 : Nat, ∃ c2 : Nat, ∃ v1 : Value, (L 3 = true → A.eval (.tmp 8) = sL g3 0 2 c2) ∧ (L 4 = true → A.eval (.tmp 9) = v1) ∧ (L 3 = true → 16 ≤ c2) ∧ Sx.Own w0 w ((L 3, g3, L111) :: (true, g1, (cond (L 5) [v1] [sL g2 0 1 c1])) :: bs) (⟨L 4, v1, 5, 1, 3, [iB 3, iB 0, iB 0]⟩ :: ⟨cond (L 4) false (true), sL g2 0 1 c1, 5, 1, 1, [iB 3]⟩ :: rs) K) ⟨0, 0, undef, (fun h => by cases h), (fun h => by cases h), (fun h => by cases h), H.drew.padG L113 [⟨false, undef, 5, 1, 3, [iB 3, iB 0, iB 0]⟩] rfl rfl⟩ ?_ ?_
 ·refine ⟨?_, ?_, ?_, ?_, ?_, ?_, trivial⟩
  ·intro L A w up hun hd F ⟨g3, c2, v1, p3, p4, qc2, H⟩
   have f4 : L 4 = false := up 4 0 rfl hun
   have f5 : L 5 = false := up 5 0 rfl hun
   have G := H; rw [f4, f5] at G
   refine step_on rfl (Ld 1 one_66 F G) ?_
   rintro xv w' ⟨hx, rfl⟩
   exact ⟨Cs hx, ⟨g3, c2, v1, Pk p3, Nf f4, qc2, H⟩⟩
  ·intro L A w up hun hd F ⟨g3, c2, v1, p3, p4, qc2, H⟩
   have f3 : L 3 = false := up 3 1 rfl hun
   have f4 : L 4 = false := up 4 3 rfl f3
   have f5 : L 5 = false := up 5 1 rfl hun
   have G := H; rw [f3, f4, f5] at G
   refine step_on rfl (d_move F (Or.inl rfl) rfl) ?_
   rintro xv w' ⟨hx, rfl⟩
   exact ⟨Cs hx, ⟨g3, c2, v1, Nf f3, Nf f4, Nf f3, H⟩⟩
  ·intro L A w up hun hd F ⟨g3, c2, v1, p3, p4, qc2, H⟩
   have f3 : L 3 = false := up 3 2 rfl hun
   have f4 : L 4 = false := up 4 3 rfl f3
   have f5 : L 5 = false := up 5 2 rfl hun
   have G := H; rw [f3, f4, f5] at G
   refine step_on rfl (d_move F (Or.inl rfl) rfl) ?_
   rintro xv w' ⟨hx, rfl⟩
   exact ⟨Cs hx, ⟨g3, c2, v1, Nf f3, Nf f4, Nf f3, H⟩⟩
  ·intro L A w up hun hd F ⟨g3, c2, v1, p3, p4, qc2, H⟩
   have f3 : L 3 = false := hun
   have f4 : L 4 = false := up 4 3 rfl hun
   have f5 : L 5 = false := up 5 3 rfl hun
   rw [f3, f4, f5] at H
   have H : Sx.Own w0 w ((false, g3, L111) :: (true, g1, [sL g2 0 1 c1]) :: bs) (⟨false, v1, 5, 1, 3, [iB 3, iB 0, iB 0]⟩ :: ⟨true, sL g2 0 1 c1, 5, 1, 1, [iB 3]⟩ :: rs) K := H
   have H := H.pickN 2 2 [0, 1] [1]
   refine step_on rfl (Do if_89 F (cx13 H)) ?_
   rintro xv w' ⟨g4, c3, hbc3, hx, H⟩
   have H := H.padG [] [⟨false, v1, 5, 1, 3, [iB 3, iB 0, iB 0]⟩] rfl rfl
   have H := H.pickN 3 2 [0, 2] [0, 1]
   exact ⟨Cn, ⟨g4, c3, v1, (fun _ => (Sx.put_same F (by decide) _).trans hx), Nf f4, (fun _ => by omega), (by show Sx.Own _ _ _ _ _; rw [show Inv.add L 3 4 = false from f4, show Inv.add L 3 5 = false from f5]; exact H)⟩⟩
  ·intro L A w up hun hd F ⟨g3, c2, v1, p3, p4, qc2, H⟩
   have t3 : L 3 = true := hd 3 rfl
   have f4 : L 4 = false := hun
   have f5 : L 5 = false := up 5 4 rfl hun
   rw [t3, f4, f5] at H
   have hbc2 := qc2 t3
   have F := Fr.add F (p3 t3)
   refine step_on rfl (d_appendW (i := 1) (news := [iB 0, iB 0]) el_66 F H rfl rfl rfl rfl rfl (fun j u hu => Sx.box_part (news := [iB 0, iB 0]) (H.box 0 g3 _ rfl).1 rfl j u hu) rfl rfl (by decide) (by decide)) ?_
   rintro xv w' ⟨v2, hx, H⟩
   have H := H.padG [] [⟨false, sL g2 0 1 c1, 5, 1, 1, [iB 3]⟩] rfl rfl
   have H := H.pickN 2 3 [0, 1] [2, 0]
   exact ⟨Cn, ⟨g3, c2, v2, Pk p3, (fun _ => (Sx.put_same F (by decide) _).trans hx), qc2, (by show Sx.Own _ _ _ _ _; rw [show Inv.add L 4 3 = true from t3, show Inv.add L 4 5 = false from f5]; exact H)⟩⟩
  ·intro L A w up hun hd F ⟨g3, c2, v1, p3, p4, qc2, H⟩
   have t3 : L 3 = true := hd 3 rfl
   have t4 : L 4 = true := hd 4 rfl
   have f5 : L 5 = false := hun
   rw [t3, t4, f5] at H
   have hbc2 := qc2 t3
   have F := Fr.add F (p3 t3)
   have F := Fr.add F (p4 t4)
   refine step_on rfl (d_store (i := 1) (xs := [v1]) (us := [v1]) sz_66 F H rfl rfl rfl (by obtain ⟨_, _, hv0⟩ := Sx.len_of (k := 3) (v := v1) (rowEq (H.row 0 _ rfl rfl) rfl rfl rfl rfl rfl); rw [hv0]; rfl) rfl (by obtain ⟨_, _, hv0⟩ := Sx.len_of (k := 3) (v := v1) (rowEq (H.row 0 _ rfl rfl) rfl rfl rfl rfl rfl); rw [hv0]; rfl) rfl (Nat.le_of_ble_eq_true rfl) rfl) ?_
   intro xv w' H
   exact ⟨Cn, ⟨g3, c2, v1, p3, p4, qc2, (by show Sx.Own _ _ _ _ _; rw [show Inv.add L 5 3 = true from t3, show Inv.add L 5 4 = true from t4]; exact H)⟩⟩
 ·intro L A w hL F ⟨g3, c2, v1, p3, p4, qc2, H⟩
  have t3 : L 3 = true := hL 3 rfl
  have t4 : L 4 = true := hL 4 rfl
  have t5 : L 5 = true := hL 5 rfl
  rw [t3, t4, t5] at H
  have F := Fr.add F (p3 t3)
  have F := Fr.add F (p4 t4)
  have hbc2 := qc2 t3
  have H := H.pickN 2 2 [0, 1] [0]
  have F := F.tq [] rfl
  obtain ⟨g5, c4, rfl, hbc4, hdc4⟩ := H.open (i := 0) rfl (by decide)
  try dsimp only [Exit.then, Exit.inBlock, Exit.jump, Exit.noGoto]
  refine Sx.end0 F Tryz.results88 ?_
  exact ⟨_, rfl, g5, c4, (by omega), rfl, H.pickN 2 1 [1] [0]⟩
set_option maxRecDepth 100000 in
theorem cx19   (H : Sx.Own w0 w (bs) (rs) K) : Cq 60 #[L117] w fun x w' => ∃ g4 c2 : Nat, 3 ≤ c2 ∧ x = sL g4 0 3 c2 ∧ Sx.Own w0 w' (bs) (⟨true, sL g4 0 3 c2, 5, 1, 3, [iB 3, iB 0, iB 0]⟩ :: rs) K := by
 refine En Tryz.func60 Tryz.ntmps60 fun A F => ?_
 refine Sp fun _ kk => Zb F (d_box F H rfl rfl L118 rfl) fun g1 A w F H => ?_
 refine Av F fun A F => ?_
 refine Nl kk (Sp fun _ kk => ?_)
 iterate 2 (refine Av F ?_; intro A F)
 refine Zv F (d_conv (v := iB 3) F rfl rfl (by kernel_rfl)) fun A F => ?_
 refine Zr (mk := fun v => v) F (d_litR (qs := #[(0, iB 3)]) (cs := #[iB 3]) (E := 5) (z := 1) F H rfl rfl (fun _ => by kernel_rfl) rfl (by decide)) fun v1 A w F H => ?_
 obtain ⟨g2, c1, rfl, hbc1, hdc1⟩ := H.open (i := 0) rfl (by decide)
 refine Zb F (d_alloc H rfl [nS] zero_66) fun g3 A w F H => ?_
 refine Zs 0 [sL g2 0 1 c1] sz_66 F H fun A w F H => ?_
 refine Nl kk (Sp fun _ kk => Zv F (d_mkFunc (fv := []) (cv := [pT g3 0]) F rfl rfl rfl) fun A F => ?_)
 refine Av F fun A F => ?_
 refine Nl kk (Sx.seq fun K4 hK4 => Sp fun _ kk => ?_)
 iterate 2 (refine Av F ?_; intro A F)
 refine Nl kk (wp_block (Sp fun _ kk => ?_))
 iterate 2 (refine Av F ?_; intro A F)
 refine Nl kk (condF F rfl (Sp fun _ kk => ?_))
 iterate 2 (refine Av F ?_; intro A F)
 refine Nl kk (condF F rfl (Sp fun _ kk => ?_))
 iterate 2 (refine Av F ?_; intro A F)
 refine Nl kk (condF F rfl (Sx.plain ?_))
 iterate 3 (refine Av F ?_; intro A F)
 refine Zv F (d_conv (v := iU 0) F rfl rfl (by kernel_rfl)) fun A F => ?_
 refine Zx F (d_callCO (fv := []) (vs := [iU 0, iI 2]) (cv := [pT g3 0]) if_88 F rfl rfl rfl (cx18 (by omega) H)) ?_
 rintro _ w ⟨g4, c2, hbc2, rfl, H⟩ A F
 refine Sx.nil (hK4 _ _ (Sx.seq fun K9 hK9 => Sp fun _ kk => ?_))
 iterate 2 (refine Av F ?_; intro A F)
 refine Nl kk (wp_block (Sx.seq fun K11 hK11 => Sp fun _ kk => ?_))
 iterate 2 (refine Av F ?_; intro A F)
 refine Nl kk (condF F rfl (Sx.plain ?_))
 iterate 2 (refine Av F ?_; intro A F)
 refine Sx.nil (hK11 _ _ (condF F rfl (Sp fun _ kk => ?_)))
 iterate 2 (refine Av F ?_; intro A F)
 refine Nl kk (condF F rfl (Sp fun _ kk => ?_))
 iterate 2 (refine Av F ?_; intro A F)
 refine Nl kk (condF F rfl (wp_skip (hK9 _ _ (Sp fun _ kk => ?_))))
 iterate 2 (refine Av F ?_; intro A F)
 refine Nl kk (Wr (ret1 F Tryz.results60 (res_tmp F rfl) ?_))
 exact ⟨_, rfl, g4, c2, (by omega), rfl, H.pickN 2 1 [] [0]⟩
set_option maxRecDepth 100000 in
abbrev L119 : List Value := [iI 0, iI 0, iI 0, iI 1, iU 0, iU 0, iU 0, iU 0, nS, iI 1, iI 0, iI 0, iI 0, iU 0, iU 0, iU 0, iU 0, nS, iI 3, iI 0, iI 0, iI 0, iU 0, iU 0, iU 0, iU 0, nS]
abbrev L120 : List Value := [iB 0, iB 1, iB 0, iB 0, iB 0, iB 0, iB 0, iB 0, iB 0, iB 0, iB 1, iB 0, iB 0, iB 3, iB 0, iB 0]
theorem cx20 {g1 c1 : Nat} (hbc1 : 3 ≤ c1) (H : Sx.Own w0 w (bs) (⟨true, sL g1 0 3 c1, 71, 9, 3, L119⟩ :: rs) K) : Cq 23 #[sL g1 0 3 c1] w fun x w' => ∃ g10 c7 : Nat, 16 ≤ c7 ∧ x = .tuple #[sL g10 0 16 c7, iI 0] ∧ Sx.Own w0 w' (bs) (⟨true, sL g1 0 3 c1, 71, 9, 3, L119⟩ :: ⟨true, sL g10 0 16 c7, 5, 1, 16, L120⟩ :: rs) K := by
 refine En Tryz.func23 Tryz.ntmps23 fun A F => ?_
 refine Sp fun _ kk => ?_
 iterate 2 (refine Av F ?_; intro A F)
 refine Nl kk (Sx.seq fun K2 hK2 => Sp fun _ kk => Av F fun A F => ?_)
 refine Zv F (d_lenS el_83 F rfl rfl) fun A F => ?_
 refine Av F fun A F => ?_
 refine Nl kk (condF F rfl (wp_skip (hK2 _ _ (Sp fun _ kk => Av F fun A F => ?_))))
 refine Nl kk (Sx.seq fun K5 hK5 => Sp fun _ kk => Av F fun A F => ?_)
 refine Zv F (d_lenS el_83 F rfl rfl) fun A F => ?_
 refine Av F fun A F => ?_
 refine Nl kk (wp_block (wp_loop_rounds 40 ?_))
 try dsimp only [Exit.then, Exit.inBlock, Exit.jump, Exit.noGoto]
 rw [rounds_succ]
 refine Sp fun _ kk => Av F fun A F => ?_
 refine Nl kk (Sx.seq fun K8 hK8 => condT F rfl (wp_skip (hK8 _ _ (Sx.seq fun K9 hK9 => wp_block (Sp fun _ kk => Zv F (d_ixZ (k := 0) (g := g1) (off := 0) (z := 9) el_83 F rfl rfl rfl rfl rfl (by omega)) fun A F => ?_)))))
 refine Zv F (Lr 0 L106 rw_71 F (H.rowBox (i := 0) rfl)) fun A F => ?_
 refine Zb F (d_alloc H rfl L107 zero_71) fun g2 A w F H => ?_
 refine Zs 0 L106 sz_71 F H fun A w F H => ?_
 refine Nl kk (Sx.seq fun K11 hK11 => Sp fun _ kk => Av F fun A F => ?_)
 refine Zx F (Do if_59 F (cx4 H)) ?_
 rintro _ w ⟨rfl, H⟩ A F
 refine Av F fun A F => ?_
 refine Nl kk (Sp fun _ kk => ?_)
 iterate 2 (refine Av F ?_; intro A F)
 refine Nl kk (condF F rfl (wp_skip (hK11 _ _ (Sx.plain ?_))))
 iterate 2 (refine Av F ?_; intro A F)
 refine Zx F (Do if_60 F (cx9 H)) ?_
 rintro _ w ⟨g3, c2, hbc2, rfl, H⟩ A F
 have H := Sx.Own.nilR H 5 1
 refine Zr (mk := fun v => v) F (d_appendW (i := 0) (news := L112) el_66 F H rfl rfl rfl rfl rfl (fun j u hu => Sx.box_part (news := L112) ((H.rowBox (i := 1) rfl).box 0 g3 _ rfl).1 rfl j u hu) rfl rfl (by decide) (by decide)) fun v1 A w F H => ?_
 obtain ⟨g4, c3, rfl, hbc3, hdc3⟩ := H.open (i := 0) rfl (by decide)
 refine Av F fun A F => ?_
 refine Sx.nil (hK9 _ _ (Sx.plain ?_))
 refine Zn (iI 1) F fun A F => ?_
 refine Av F fun A F => ?_
 refine Sx.nil ?_
 try dsimp only [Exit.then, Exit.inBlock, Exit.jump, Exit.noGoto]
 rw [rounds_succ]
 refine Sp fun _ kk => Av F fun A F => ?_
 refine Nl kk (Sx.seq fun K15 hK15 => condT F rfl (wp_skip (hK15 _ _ (Sx.seq fun K16 hK16 => wp_block (Sp fun _ kk => Zv F (d_ixZ (k := 1) (g := g1) (off := 0) (z := 9) el_83 F rfl rfl rfl rfl rfl (by omega)) fun A F => ?_)))))
 refine Zv F (Lr 0 L116 rw_71 F (H.rowBox (i := 2) rfl)) fun A F => ?_
 refine Zb F (d_alloc H rfl L107 zero_71) fun g5 A w F H => ?_
 refine Zs 0 L116 sz_71 F H fun A w F H => ?_
 refine Nl kk (Sx.seq fun K18 hK18 => Sp fun _ kk => Av F fun A F => ?_)
 refine Zx F (Do if_59 F (cx12 H)) ?_
 rintro _ w ⟨rfl, H⟩ A F
 refine Av F fun A F => ?_
 refine Nl kk (Sp fun _ kk => ?_)
 iterate 2 (refine Av F ?_; intro A F)
 refine Nl kk (condF F rfl (wp_skip (hK18 _ _ (Sx.plain ?_))))
 iterate 2 (refine Av F ?_; intro A F)
 refine Zx F (Do if_60 F (cx15 H)) ?_
 rintro _ w ⟨g6, c4, hbc4, rfl, H⟩ A F
 refine Zr (mk := fun v => v) F (d_appendW (i := 1) (news := [iB 1, iB 0, iB 0]) el_66 F H rfl rfl rfl rfl rfl (fun j u hu => Sx.box_part (news := [iB 1, iB 0, iB 0]) ((H.rowBox (i := 0) rfl).box 0 g6 _ rfl).1 rfl j u hu) rfl rfl (by decide) (by decide)) fun v2 A w F H => ?_
 obtain ⟨g7, c5, rfl, hbc5, hdc5⟩ := H.open (i := 1) rfl (by decide)
 refine Av F fun A F => ?_
 refine Sx.nil (hK16 _ _ (Sx.plain ?_))
 refine Zn (iI 2) F fun A F => ?_
 refine Av F fun A F => ?_
 refine Sx.nil ?_
 try dsimp only [Exit.then, Exit.inBlock, Exit.jump, Exit.noGoto]
 rw [rounds_succ]
 refine Sp fun _ kk => Av F fun A F => ?_
 refine Nl kk (Sx.seq fun K22 hK22 => condT F rfl (wp_skip (hK22 _ _ (Sx.seq fun K23 hK23 => wp_block (Sp fun _ kk => Zv F (d_ixZ (k := 2) (g := g1) (off := 0) (z := 9) el_83 F rfl rfl rfl rfl rfl (by omega)) fun A F => ?_)))))
 refine Zv F (Lr 0 L118 rw_71 F (H.rowBox (i := 3) rfl)) fun A F => ?_
 refine Zb F (d_alloc H rfl L107 zero_71) fun g8 A w F H => ?_
 refine Zs 0 L118 sz_71 F H fun A w F H => ?_
 refine Nl kk (Sx.seq fun K25 hK25 => Sp fun _ kk => Av F fun A F => ?_)
 refine Zx F (Do if_59 F (cx17 H)) ?_
 rintro _ w ⟨rfl, H⟩ A F
 refine Av F fun A F => ?_
 refine Nl kk (Sp fun _ kk => ?_)
 iterate 2 (refine Av F ?_; intro A F)
 refine Nl kk (condF F rfl (wp_skip (hK25 _ _ (Sx.plain ?_))))
 iterate 2 (refine Av F ?_; intro A F)
 refine Zx F (Do if_60 F (cx19 H)) ?_
 rintro _ w ⟨g9, c6, hbc6, rfl, H⟩ A F
 refine Zr (mk := fun v => v) F (d_appendW (i := 2) (news := [iB 3, iB 0, iB 0]) el_66 F H rfl rfl rfl rfl rfl (fun j u hu => Sx.box_part (news := [iB 3, iB 0, iB 0]) ((H.rowBox (i := 0) rfl).box 0 g9 _ rfl).1 rfl j u hu) rfl rfl (by decide) (by decide)) fun v3 A w F H => ?_
 obtain ⟨g10, c7, rfl, hbc7, hdc7⟩ := H.open (i := 2) rfl (by decide)
 refine Av F fun A F => ?_
 refine Sx.nil (hK23 _ _ (Sx.plain ?_))
 refine Zn (iI 3) F fun A F => ?_
 refine Av F fun A F => ?_
 refine Sx.nil ?_
 try dsimp only [Exit.then, Exit.inBlock, Exit.jump, Exit.noGoto]
 rw [rounds_succ]
 refine Sp fun _ kk => Av F fun A F => ?_
 refine Nl kk (Sx.seq fun K29 hK29 => condF F rfl (wp_exit ?_))
 try dsimp only [Exit.then, Exit.jump, Exit.noGoto]
 refine exit_here (hK5 _ _ (Sp fun _ kk => ?_))
 iterate 3 (refine Av F ?_; intro A F)
 refine Nl kk (Wr (ret2 F Tryz.results23 (res_tmp F rfl) (res_tmp F rfl) ?_))
 exact ⟨_, rfl, g10, c7, (by omega), rfl, H.pickN 3 5 [] [4, 2]⟩
end
section
open Sx
variable {w0 w : World} {bs : List Sx.Bx} {rs : List Sx.Rx} {K : Nat → Option Obj}
set_option maxRecDepth 100000 in
theorem cx21 {g1 g2 c1 : Nat} (hbc1 : 16 ≤ c1) (H : Sx.Own w0 w ((true, g1, [sL g2 0 16 c1, bF]) :: bs) (⟨true, sL g2 0 16 c1, 5, 1, 16, L120⟩ :: rs) K) : Cq 129 #[pT g1 0, iI 1] w fun x w' => ∃ g3 c2 : Nat, 1 ≤ c2 ∧ x = sL g3 0 1 c2 ∧ Sx.Own w0 w' ((true, g1, [sL g2 1 15 (c1 - 1), bF]) :: (true, g2, L120) :: bs) (⟨true, sL g3 0 1 c2, 5, 1, 1, [iB 0]⟩ :: rs) K := by
 refine En Tryz.func129 Tryz.ntmps129 fun A F => ?_
 refine Sp fun _ kk => Av F fun A F => ?_
 refine Nl kk (Sx.seq fun K2 hK2 => Sp fun _ kk => ?_)
 iterate 4 (refine Av F ?_; intro A F)
 refine Zv F (d_lenS el_66 F rfl rfl) fun A F => ?_
 iterate 2 (refine Av F ?_; intro A F)
 refine Nl kk (condF F rfl (wp_skip (hK2 _ _ (Sp fun _ kk => ?_))))
 iterate 5 (refine Av F ?_; intro A F)
 have H := H.rowBox (i := 0) rfl
 refine Zv F (d_sliceH (h := 1) el_66 F rfl rfl rfl rfl (by omega)) fun A F => ?_
 refine Av F fun A F => ?_
 refine Nl kk (Sp fun _ kk => ?_)
 iterate 6 (refine Av F ?_; intro A F)
 refine Zv F (d_sliceL' (l := 1) el_66 F rfl rfl rfl rfl (by omega) (by omega)) fun A F => ?_
 iterate 2 (refine Av F ?_; intro A F)
 refine Zs 1 [sL g2 1 15 (c1 - 1), bF] sz_66 F H fun A w F H => ?_
 refine Nl kk (Sp fun _ kk => Av F fun A F => ?_)
 have H := Sx.Own.nilR H 5 1
 refine Zr (mk := fun v => v) F (d_appendW (i := 0) (news := [iB 0]) el_66 F H rfl rfl rfl rfl rfl (fun j u hu => Sx.box_part (news := [iB 0]) (H.box 0 g2 _ rfl).1 rfl j u hu) rfl rfl (by decide) (by decide)) fun v1 A w F H => ?_
 obtain ⟨g3, c2, rfl, hbc2, hdc2⟩ := H.open (i := 0) rfl (by decide)
 refine Av F fun A F => ?_
 refine Nl kk (Wr (ret1 F Tryz.results129 (res_tmp F rfl) ?_))
 exact ⟨_, rfl, g3, c2, (by omega), rfl, H.pickN 2 2 [1, 0] [0]⟩
set_option maxRecDepth 100000 in
abbrev L121 : Value := .tuple #[.agg #[iU 0, iU 0], iI 0]
theorem cx22 {g1 g2 c1 : Nat} (hbc1 : 16 ≤ c1) (H : Sx.Own w0 w ((true, g1, [sL g2 0 16 c1, bF]) :: bs) (⟨true, sL g2 0 16 c1, 5, 1, 16, L120⟩ :: rs) K) : Cq 127 #[pT g1 0, iI 1] w fun x w' => x = iU 0 ∧ Sx.Own w0 w' ((true, g1, [sL g2 1 15 (c1 - 1), bF]) :: (true, g2, L120) :: bs) (rs) K := by
 refine En Tryz.func127 Tryz.ntmps127 fun A F => ?_
 refine Sp fun _ kk => Av F fun A F => ?_
 refine Nl kk (Sp fun _ kk => Zr (mk := fun v => v) F (d_make (m := 16) Sx.undU8 Sx.infU8 rfl F H rfl rfl rfl (by decide) (by decide)) fun v1 A w F H => ?_)
 have H := H.xs (i := 0) (ys := L111) rfl (by kernel_rfl)
 obtain ⟨g3, c2, rfl, hbc2, hdc2⟩ := H.open (i := 0) rfl (by decide)
 refine Av F fun A F => ?_
 refine Nl kk (Sp fun _ kk => ?_)
 iterate 3 (refine Av F ?_; intro A F)
 have H := H.pickN 1 2 [0] [1, 0]
 refine Zx F (Do if_129 F (cx21 (by omega) H)) ?_
 rintro _ w ⟨g4, c3, hbc3, rfl, H⟩ A F
 have H := H.rowBox (i := 1) rfl
 refine Zx F (d_copyB (i := 0) (cs := [iB 0]) (us := L111) (m := 1) (el_66).1 (by kernel_rfl) F H rfl rfl rfl rfl (by decide) (fun j u hu => Sx.box_part (news := [iB 0]) ((H.rowBox (i := 0) rfl).box 0 g4 _ rfl).1 rfl j u hu) rfl rfl (Nat.le_of_ble_eq_true rfl) rfl) ?_
 rintro _ w ⟨rfl, H⟩ A F
 have H : Sx.Own w0 w ((true, g3, L111) :: (true, g1, [sL g2 1 15 (c1 - 1), bF]) :: (true, g2, L120) :: bs) (⟨true, sL g4 0 1 c3, 5, 1, 1, [iB 0]⟩ :: ⟨false, undef, 5, 1, 0, []⟩ :: rs) K := H
 refine Nl kk (Sp fun _ kk => Av F fun A F => ?_)
 refine Zw F (d_call (vs := [sL g3 0 16 c2]) (v := L121) if_144 F H rfl rfl (Calls.val (Sx.take_box [0, 0, 0, 0, 0, 0, 0, 0, 0, 0, 0, 0, 0, 0, 0, 0] 0#128 rfl (by decide +kernel) (by decide) (H.box 0 g3 _ rfl).1 rfl) rfl (by kernel_rfl))) fun A w F H => ?_
 iterate 3 (refine Av F ?_; intro A F)
 refine Zb F (d_alloc H rfl [iU 0, iU 0] zero_26) fun g5 A w F H => ?_
 refine Zs 0 [iU 0, iU 0] sz_26 F H fun A w F H => ?_
 refine Av F fun A F => ?_
 refine Nl kk (Sp fun _ kk => ?_)
 iterate 3 (refine Av F ?_; intro A F)
 refine Nl kk (Wr (ret1 F Tryz.results127 (res_tmp F rfl) ?_))
 exact ⟨_, rfl, rfl, H.pickN 4 2 [2, 3] []⟩
set_option maxRecDepth 100000 in
theorem cx23   (H : Sx.Own w0 w (bs) (rs) K) : Cq 86 #[L108] w fun x w' => x = .tuple #[L108, bT] ∧ Sx.Own w0 w' (bs) (rs) K := by
 refine En Tryz.func86 Tryz.ntmps86 fun A F => ?_
 refine Sp fun _ kk => Zb F (d_box F H rfl rfl L107 rfl) fun g1 A w F H => ?_
 refine Zb F (d_alloc H rfl L107 zero_71) fun g2 A w F H => ?_
 refine Av F fun A F => ?_
 refine Nl kk (Sp fun _ kk => ?_)
 iterate 2 (refine Av F ?_; intro A F)
 refine Zv F (d_build (qs := #[(0, iI 0)]) (v := L108) F rfl rfl (by kernel_rfl)) fun A F => ?_
 refine Zb F (d_alloc H rfl L107 zero_71) fun g3 A w F H => ?_
 refine Zs 0 L107 sz_71 F H fun A w F H => ?_
 refine Nl kk (Sx.seq fun K3 hK3 => Sp fun _ kk => ?_)
 iterate 2 (refine Av F ?_; intro A F)
 refine Nl kk (wp_block (Sp fun _ kk => ?_))
 iterate 2 (refine Av F ?_; intro A F)
 refine Nl kk (condT F rfl ?_)
 have F := F.tq (L109 g1 g2 g3) rfl
 refine Dn F [some (pT g1 3), some (iI 0), some (pT g1 4), some (iU 0), some (pT g3 3), none, some (pT g3 4), none] (fun L A w => Sx.Own w0 w ((true, g3, L107) :: (true, g2, L107) :: (true, g1, L107) :: bs) (rs) K) (H.drew.padG [] [] rfl rfl) ?_ ?_
 ·refine ⟨?_, ?_, ?_, ?_, ?_, ?_, ?_, ?_, trivial⟩
  ·exact Sa
  ·exact SV (fun _ _ _ F H => Ld 2 one_3 F H)
  ·exact Sa
  ·exact SV (fun _ _ _ F H => Ld 2 one_22 F H)
  ·exact Sa
  ·intro L A w up hun hd F H
   refine step_on rfl (d_store (i := 0) (xs := [iI 0]) (us := L107) sz_3 F H rfl rfl rfl rfl rfl rfl rfl (Nat.le_of_ble_eq_true rfl) rfl) ?_
   intro xv w' H
   exact ⟨Cn, H⟩
  ·exact Sa
  ·intro L A w up hun hd F H
   refine step_on rfl (d_store (i := 0) (xs := [iU 0]) (us := L107) sz_22 F H rfl rfl rfl rfl rfl rfl rfl (Nat.le_of_ble_eq_true rfl) rfl) ?_
   intro xv w' H
   exact ⟨Cn, H⟩
 ·intro L A w hL F H
  have H := H.pickN 3 0 [0, 1, 2] []
  have F := F.tq (L109 g1 g2 g3) rfl
  refine hK3 _ _ (Sp fun _ kk => Av F fun A F => ?_)
  refine Zs 1 L107 sz_71 F H fun A w F H => ?_
  refine Av F fun A F => ?_
  refine Nl kk (Wr (ret2 F Tryz.results86 (res_row (i := 1) (xs := L107) rw_71 F H rfl rfl rfl rfl) (res_tmp F rfl) ?_))
  exact ⟨_, rfl, rfl, H.pickN 3 0 [] []⟩
set_option maxRecDepth 100000 in
theorem cx24 {g1 g2 c1 : Nat} (hbc1 : 16 ≤ c1) (H : Sx.Own w0 w ((true, g1, [sL g2 1 15 (c1 - 1), bF]) :: (true, g2, L120) :: bs) (rs) K) : Cq 129 #[pT g1 0, iI 1] w fun x w' => ∃ g3 c2 : Nat, 1 ≤ c2 ∧ x = sL g3 0 1 c2 ∧ Sx.Own w0 w' ((true, g1, [sL g2 2 14 (c1 - 1 - 1), bF]) :: (true, g2, L120) :: bs) (⟨true, sL g3 0 1 c2, 5, 1, 1, [iB 1]⟩ :: rs) K := by
 refine En Tryz.func129 Tryz.ntmps129 fun A F => ?_
 refine Sp fun _ kk => Av F fun A F => ?_
 refine Nl kk (Sx.seq fun K2 hK2 => Sp fun _ kk => ?_)
 iterate 4 (refine Av F ?_; intro A F)
 refine Zv F (d_lenS el_66 F rfl rfl) fun A F => ?_
 iterate 2 (refine Av F ?_; intro A F)
 refine Nl kk (condF F rfl (wp_skip (hK2 _ _ (Sp fun _ kk => ?_))))
 iterate 5 (refine Av F ?_; intro A F)
 refine Zv F (d_sliceH (h := 1) el_66 F rfl rfl rfl rfl (by omega)) fun A F => ?_
 refine Av F fun A F => ?_
 refine Nl kk (Sp fun _ kk => ?_)
 iterate 6 (refine Av F ?_; intro A F)
 refine Zv F (d_sliceL' (l := 1) el_66 F rfl rfl rfl rfl (by omega) (by omega)) fun A F => ?_
 iterate 2 (refine Av F ?_; intro A F)
 refine Zs 0 [sL g2 2 14 (c1 - 1 - 1), bF] sz_66 F H fun A w F H => ?_
 refine Nl kk (Sp fun _ kk => Av F fun A F => ?_)
 have H := Sx.Own.nilR H 5 1
 refine Zr (mk := fun v => v) F (d_appendW (i := 0) (news := [iB 1]) el_66 F H rfl rfl rfl rfl rfl (fun j u hu => Sx.box_part (news := [iB 1]) (H.box 1 g2 _ rfl).1 rfl j u hu) rfl rfl (by decide) (by decide)) fun v1 A w F H => ?_
 obtain ⟨g3, c2, rfl, hbc2, hdc2⟩ := H.open (i := 0) rfl (by decide)
 refine Av F fun A F => ?_
 refine Nl kk (Wr (ret1 F Tryz.results129 (res_tmp F rfl) ?_))
 exact ⟨_, rfl, g3, c2, (by omega), rfl, H.pickN 2 1 [0, 1] [0]⟩
set_option maxRecDepth 100000 in
theorem cx25 {g1 g2 c1 : Nat} (hbc1 : 16 ≤ c1) (H : Sx.Own w0 w ((true, g1, [sL g2 1 15 (c1 - 1), bF]) :: (true, g2, L120) :: bs) (rs) K) : Cq 127 #[pT g1 0, iI 1] w fun x w' => x = iU 1 ∧ Sx.Own w0 w' ((true, g1, [sL g2 2 14 (c1 - 1 - 1), bF]) :: (true, g2, L120) :: bs) (rs) K := by
 refine En Tryz.func127 Tryz.ntmps127 fun A F => ?_
 refine Sp fun _ kk => Av F fun A F => ?_
 refine Nl kk (Sp fun _ kk => Zr (mk := fun v => v) F (d_make (m := 16) Sx.undU8 Sx.infU8 rfl F H rfl rfl rfl (by decide) (by decide)) fun v1 A w F H => ?_)
 have H := H.xs (i := 0) (ys := L111) rfl (by kernel_rfl)
 obtain ⟨g3, c2, rfl, hbc2, hdc2⟩ := H.open (i := 0) rfl (by decide)
 refine Av F fun A F => ?_
 refine Nl kk (Sp fun _ kk => ?_)
 iterate 3 (refine Av F ?_; intro A F)
 refine Zx F (Do if_129 F (cx24 (by omega) H)) ?_
 rintro _ w ⟨g4, c3, hbc3, rfl, H⟩ A F
 have H := H.rowBox (i := 1) rfl
 refine Zx F (d_copyB (i := 0) (cs := [iB 1]) (us := L110) (m := 1) (el_66).1 (by kernel_rfl) F H rfl rfl rfl rfl (by decide) (fun j u hu => Sx.box_part (news := [iB 1]) ((H.rowBox (i := 0) rfl).box 0 g4 _ rfl).1 rfl j u hu) rfl rfl (Nat.le_of_ble_eq_true rfl) rfl) ?_
 rintro _ w ⟨rfl, H⟩ A F
 have H : Sx.Own w0 w ((true, g3, L110) :: (true, g1, [sL g2 2 14 (c1 - 1 - 1), bF]) :: (true, g2, L120) :: bs) (⟨true, sL g4 0 1 c3, 5, 1, 1, [iB 1]⟩ :: ⟨false, undef, 5, 1, 0, []⟩ :: rs) K := H
 refine Nl kk (Sp fun _ kk => Av F fun A F => ?_)
 refine Zw F (d_call (vs := [sL g3 0 16 c2]) (v := .tuple #[.agg #[iU 0, iU 1], iI 0]) if_144 F H rfl rfl (Calls.val (Sx.take_box [1, 0, 0, 0, 0, 0, 0, 0, 0, 0, 0, 0, 0, 0, 0, 0] 1#128 rfl (by decide +kernel) (by decide) (H.box 0 g3 _ rfl).1 rfl) rfl (by kernel_rfl))) fun A w F H => ?_
 iterate 3 (refine Av F ?_; intro A F)
 refine Zb F (d_alloc H rfl [iU 0, iU 0] zero_26) fun g5 A w F H => ?_
 refine Zs 0 [iU 0, iU 1] sz_26 F H fun A w F H => ?_
 refine Av F fun A F => ?_
 refine Nl kk (Sp fun _ kk => ?_)
 iterate 3 (refine Av F ?_; intro A F)
 refine Nl kk (Wr (ret1 F Tryz.results127 (res_tmp F rfl) ?_))
 exact ⟨_, rfl, rfl, H.pickN 4 2 [2, 3] []⟩
set_option maxRecDepth 100000 in
theorem cx26 {g1 g2 c1 : Nat} (hbc1 : 16 ≤ c1) (H : Sx.Own w0 w ((true, g1, [sL g2 2 14 (c1 - 1 - 1), bF]) :: (true, g2, L120) :: bs) (rs) K) : Cq 129 #[pT g1 0, iI 8] w fun x w' => ∃ g3 c2 : Nat, 8 ≤ c2 ∧ x = sL g3 0 8 c2 ∧ Sx.Own w0 w' ((true, g1, [sL g2 10 6 (c1 - 1 - 1 - 8), bF]) :: (true, g2, L120) :: bs) (⟨true, sL g3 0 8 c2, 5, 1, 8, L114⟩ :: rs) K := by
 refine En Tryz.func129 Tryz.ntmps129 fun A F => ?_
 refine Sp fun _ kk => Av F fun A F => ?_
 refine Nl kk (Sx.seq fun K2 hK2 => Sp fun _ kk => ?_)
 iterate 4 (refine Av F ?_; intro A F)
 refine Zv F (d_lenS el_66 F rfl rfl) fun A F => ?_
 iterate 2 (refine Av F ?_; intro A F)
 refine Nl kk (condF F rfl (wp_skip (hK2 _ _ (Sp fun _ kk => ?_))))
 iterate 5 (refine Av F ?_; intro A F)
 refine Zv F (d_sliceH (h := 8) el_66 F rfl rfl rfl rfl (by omega)) fun A F => ?_
 refine Av F fun A F => ?_
 refine Nl kk (Sp fun _ kk => ?_)
 iterate 6 (refine Av F ?_; intro A F)
 refine Zv F (d_sliceL' (l := 8) el_66 F rfl rfl rfl rfl (by omega) (by omega)) fun A F => ?_
 iterate 2 (refine Av F ?_; intro A F)
 refine Zs 0 [sL g2 10 6 (c1 - 1 - 1 - 8), bF] sz_66 F H fun A w F H => ?_
 refine Nl kk (Sp fun _ kk => Av F fun A F => ?_)
 have H := Sx.Own.nilR H 5 1
 refine Zr (mk := fun v => v) F (d_appendW (i := 0) (news := L114) el_66 F H rfl rfl rfl rfl rfl (fun j u hu => Sx.box_part (news := L114) (H.box 1 g2 _ rfl).1 rfl j u hu) rfl rfl (by decide) (by decide)) fun v1 A w F H => ?_
 obtain ⟨g3, c2, rfl, hbc2, hdc2⟩ := H.open (i := 0) rfl (by decide)
 refine Av F fun A F => ?_
 refine Nl kk (Wr (ret1 F Tryz.results129 (res_tmp F rfl) ?_))
 exact ⟨_, rfl, g3, c2, (by omega), rfl, H.pickN 2 1 [0, 1] [0]⟩
set_option maxRecDepth 100000 in
theorem cx27 {g1 g2 c1 : Nat} (hbc1 : 16 ≤ c1) (H : Sx.Own w0 w ((true, g1, [sL g2 2 14 (c1 - 1 - 1), bF]) :: (true, g2, L120) :: bs) (rs) K) : Cq 127 #[pT g1 0, iI 8] w fun x w' => x = iU 0 ∧ Sx.Own w0 w' ((true, g1, [sL g2 10 6 (c1 - 1 - 1 - 8), bF]) :: (true, g2, L120) :: bs) (rs) K := by
 refine En Tryz.func127 Tryz.ntmps127 fun A F => ?_
 refine Sp fun _ kk => Av F fun A F => ?_
 refine Nl kk (Sp fun _ kk => Zr (mk := fun v => v) F (d_make (m := 16) Sx.undU8 Sx.infU8 rfl F H rfl rfl rfl (by decide) (by decide)) fun v1 A w F H => ?_)
 have H := H.xs (i := 0) (ys := L111) rfl (by kernel_rfl)
 obtain ⟨g3, c2, rfl, hbc2, hdc2⟩ := H.open (i := 0) rfl (by decide)
 refine Av F fun A F => ?_
 refine Nl kk (Sp fun _ kk => ?_)
 iterate 3 (refine Av F ?_; intro A F)
 refine Zx F (Do if_129 F (cx26 (by omega) H)) ?_
 rintro _ w ⟨g4, c3, hbc3, rfl, H⟩ A F
 have H := H.rowBox (i := 1) rfl
 refine Zx F (d_copyB (i := 0) (cs := L114) (us := L111) (m := 8) (el_66).1 (by kernel_rfl) F H rfl rfl rfl rfl (by decide) (fun j u hu => Sx.box_part (news := L114) ((H.rowBox (i := 0) rfl).box 0 g4 _ rfl).1 rfl j u hu) rfl rfl (Nat.le_of_ble_eq_true rfl) rfl) ?_
 rintro _ w ⟨rfl, H⟩ A F
 have H : Sx.Own w0 w ((true, g3, L111) :: (true, g1, [sL g2 10 6 (c1 - 1 - 1 - 8), bF]) :: (true, g2, L120) :: bs) (⟨true, sL g4 0 8 c3, 5, 1, 8, L114⟩ :: ⟨false, undef, 5, 1, 0, []⟩ :: rs) K := H
 refine Nl kk (Sp fun _ kk => Av F fun A F => ?_)
 refine Zw F (d_call (vs := [sL g3 0 16 c2]) (v := L121) if_144 F H rfl rfl (Calls.val (Sx.take_box [0, 0, 0, 0, 0, 0, 0, 0, 0, 0, 0, 0, 0, 0, 0, 0] 0#128 rfl (by decide +kernel) (by decide) (H.box 0 g3 _ rfl).1 rfl) rfl (by kernel_rfl))) fun A w F H => ?_
 iterate 3 (refine Av F ?_; intro A F)
 refine Zb F (d_alloc H rfl [iU 0, iU 0] zero_26) fun g5 A w F H => ?_
 refine Zs 0 [iU 0, iU 0] sz_26 F H fun A w F H => ?_
 refine Av F fun A F => ?_
 refine Nl kk (Sp fun _ kk => ?_)
 iterate 3 (refine Av F ?_; intro A F)
 refine Nl kk (Wr (ret1 F Tryz.results127 (res_tmp F rfl) ?_))
 exact ⟨_, rfl, rfl, H.pickN 4 2 [2, 3] []⟩
set_option maxRecDepth 100000 in
theorem cx28 {g1 g2 g3 g4 g5 c1 : Nat} (hbc1 : 16 ≤ c1) (H : Sx.Own w0 w ((true, g1, [iI 0]) :: (true, g2, [pT g4 0]) :: (true, g3, L106) :: (true, g4, [sL g5 10 6 (c1 - 1 - 1 - 8), bF]) :: (true, g5, L120) :: bs) (rs) K) : CallsD Tryz.prog 126 #[pT g1 0, pT g2 0, pT g3 0] .returning w fun e u' w' => u' = .returning ∧ ∃ x, e = .returned x ∧ x = .tuple #[] ∧ Sx.Own w0 w' ((true, g1, [iI 0]) :: (true, g2, [pT g4 0]) :: (true, g3, L106) :: (true, g4, [sL g5 10 6 (c1 - 1 - 1 - 8), bF]) :: (true, g5, L120) :: bs) (rs) K := by
 refine Sx.enterDD (args := [pT g1 0, pT g2 0, pT g3 0]) Tryz.func126 rfl Tryz.ntmps126 (Nat.le_of_ble_eq_true rfl) (fun A F => ?_)
 refine Sx.seq fun K1 hK1 => Sp fun _ kk => ?_
 iterate 8 (refine Av F ?_; intro A F)
 refine Nl kk (condF F rfl (wp_skip (hK1 _ _ (Sp fun _ kk => ?_))))
 iterate 2 (refine Av F ?_; intro A F)
 refine Nl kk (condF F rfl (wp_skip ?_))
 try dsimp only [Exit.then, Exit.inBlock, Exit.jump, Exit.noGoto]
 refine Sx.end0 F Tryz.results126 ?_
 exact ⟨_, rfl, rfl, H.pickN 5 0 [0, 1, 2, 3, 4] []⟩
set_option maxRecDepth 100000 in
theorem cx29 {g1 g2 c1 : Nat} (hbc1 : 16 ≤ c1) (H : Sx.Own w0 w ((true, g1, [sL g2 0 16 c1, bF]) :: bs) (⟨true, sL g2 0 16 c1, 5, 1, 16, L120⟩ :: rs) K) : Cq 91 #[pT g1 0] w fun x w' => x = .tuple #[L105, iI 0] ∧ Sx.Own w0 w' ((true, g1, [sL g2 10 6 (c1 - 1 - 1 - 8), bF]) :: (true, g2, L120) :: bs) (rs) K := by
 refine Sx.enterD (args := [pT g1 0]) Tryz.func91 rfl Tryz.ntmps91 (Nat.le_of_ble_eq_true rfl) (fun A F => ?_)
 refine Sp fun _ kk => Zb F (d_box F H rfl rfl [pT g1 0] rfl) fun g3 A w F H => ?_
 refine Zb F (d_alloc H rfl L107 zero_71) fun g4 A w F H => ?_
 refine Zb F (d_alloc H rfl [iI 0] zero_37) fun g5 A w F H => ?_
 refine Nl kk (Sp fun _ kk => Zv F (d_mkFunc (fv := []) (cv := [pT g5 0, pT g3 0, pT g4 0]) F rfl rfl rfl) fun A F => ?_)
 refine Sx.sDefer (fv := []) (vs := []) (cv := [pT g5 0, pT g3 0, pT g4 0]) F rfl rfl rfl (wanted_none rfl _) rfl ?_
 intro A F
 refine Nl kk (Sp fun _ kk => Av F fun A F => ?_)
 have H := H.pickN 4 1 [3, 0, 1, 2] [0]
 refine Zx F (Do if_127 F (cx22 (by omega) H)) ?_
 rintro _ w ⟨rfl, H⟩ A F
 refine Zv F (d_conv (v := iI 0) F rfl rfl (by kernel_rfl)) fun A F => ?_
 refine Av F fun A F => ?_
 refine Zs 3 L107 sz_3 F H fun A w F H => ?_
 refine Nl kk (Sx.seq fun K4 hK4 => Sp fun _ kk => Av F fun A F => ?_)
 refine Zx F (Do if_86 F (cx23 H)) ?_
 rintro _ w ⟨rfl, H⟩ A F
 iterate 3 (refine Av F ?_; intro A F)
 refine Zb F (d_alloc H rfl L107 zero_71) fun g6 A w F H => ?_
 refine Zs 0 L107 sz_71 F H fun A w F H => ?_
 refine Av F fun A F => ?_
 refine Nl kk (Sp fun _ kk => Av F fun A F => ?_)
 refine Zv F (d_un (v := bF) F rfl rfl rfl) fun A F => ?_
 refine Nl kk (condF F rfl (wp_skip (hK4 _ _ (Sp fun _ kk => Zv F (d_mkFunc (fv := []) (cv := [pT g3 0, pT g4 0]) F rfl rfl rfl) fun A F => ?_))))
 refine Av F fun A F => ?_
 refine Nl kk (Sx.seq fun K8 hK8 => Sp fun _ kk => ?_)
 iterate 2 (refine Av F ?_; intro A F)
 refine Nl kk (wp_block (Sp fun _ kk => ?_))
 iterate 2 (refine Av F ?_; intro A F)
 refine Nl kk (condT F rfl ?_)
 have F := F.tq [(1, pT g3 0), (2, pT g4 0), (3, pT g5 0), (6, .func (.func 128) #[] #[pT g3 0, pT g4 0]), (23, iI 0)] rfl
 refine Dn F [some (pT g1 0), some (iU 1), some (iI 1), some (pT g1 0), some (iU 0), some (pT g4 3), none, some (pT g4 4), none] (fun L A w => Sx.Own w0 w ((true, g6, L107) :: (true, g1, (cond (L 4) [sL g2 10 6 (c1 - 1 - 1 - 8), bF] (cond (L 1) [sL g2 2 14 (c1 - 1 - 1), bF] [sL g2 1 15 (c1 - 1), bF]))) :: (true, g2, L120) :: (true, g5, [iI 0]) :: (true, g4, (cond (L 6) L106 L107)) :: (true, g3, [pT g1 0]) :: bs) (rs) K) (H.drew.padG [] [] rfl rfl) ?_ ?_
 ·refine ⟨?_, ?_, ?_, ?_, ?_, ?_, ?_, ?_, ?_, trivial⟩
  ·exact SV (fun _ _ _ F H => Ld 5 one_172 F H)
  ·intro L A w up hun hd F H
   have f1 : L 1 = false := hun
   have f4 : L 4 = false := up 4 1 rfl hun
   have f6 : L 6 = false := up 6 1 rfl hun
   rw [f1, f4, f6] at H
   have H : Sx.Own w0 w ((true, g6, L107) :: (true, g1, [sL g2 1 15 (c1 - 1), bF]) :: (true, g2, L120) :: (true, g5, [iI 0]) :: (true, g4, L107) :: (true, g3, [pT g1 0]) :: bs) (rs) K := H
   have H := H.pickN 6 0 [1, 2, 0, 3, 4, 5] []
   refine step_on rfl (Do if_127 F (cx25 (by omega) H)) ?_
   rintro xv w' ⟨hx, H⟩
   have H := H.pickN 6 0 [2, 0, 1, 3, 4, 5] []
   exact ⟨Cs hx, (by show Sx.Own _ _ _ _ _; rw [show Inv.add L 1 4 = false from f4, show Inv.add L 1 6 = false from f6]; exact H)⟩
  ·exact SV (fun _ _ _ F _ => d_conv (v := iI 1) F rfl rfl (by kernel_rfl))
  ·exact SV (fun _ _ _ F H => Ld 5 one_172 F H)
  ·intro L A w up hun hd F H
   have t1 : L 1 = true := hd 1 rfl
   have f4 : L 4 = false := hun
   have f6 : L 6 = false := up 6 4 rfl hun
   rw [t1, f4, f6] at H
   have H : Sx.Own w0 w ((true, g6, L107) :: (true, g1, [sL g2 2 14 (c1 - 1 - 1), bF]) :: (true, g2, L120) :: (true, g5, [iI 0]) :: (true, g4, L107) :: (true, g3, [pT g1 0]) :: bs) (rs) K := H
   have H := H.pickN 6 0 [1, 2, 0, 3, 4, 5] []
   refine step_on rfl (Do if_127 F (cx27 (by omega) H)) ?_
   rintro xv w' ⟨hx, H⟩
   have H := H.pickN 6 0 [2, 0, 1, 3, 4, 5] []
   exact ⟨Cs hx, (by show Sx.Own _ _ _ _ _; rw [show Inv.add L 4 1 = true from t1, show Inv.add L 4 6 = false from f6]; exact H)⟩
  ·exact Sa
  ·intro L A w up hun hd F H
   have t1 : L 1 = true := hd 1 rfl
   have t4 : L 4 = true := hd 4 rfl
   have f6 : L 6 = false := hun
   rw [t1, t4, f6] at H
   refine step_on rfl (d_store (i := 4) (xs := [iI 1]) (us := L106) sz_3 F H rfl rfl rfl rfl rfl rfl rfl (Nat.le_of_ble_eq_true rfl) rfl) ?_
   intro xv w' H
   exact ⟨Cn, (by show Sx.Own _ _ _ _ _; rw [show Inv.add L 6 1 = true from t1, show Inv.add L 6 4 = true from t4]; exact H)⟩
  ·exact Sa
  ·intro L A w up hun hd F H
   have t1 : L 1 = true := hd 1 rfl
   have t4 : L 4 = true := hd 4 rfl
   have t6 : L 6 = true := hd 6 rfl
   rw [t1, t4, t6] at H
   refine step_on rfl (d_store (i := 4) (xs := [iU 0]) (us := L106) sz_22 F H rfl rfl rfl rfl rfl rfl rfl (Nat.le_of_ble_eq_true rfl) rfl) ?_
   intro xv w' H
   exact ⟨Cn, (by show Sx.Own _ _ _ _ _; rw [show Inv.add L 8 1 = true from t1, show Inv.add L 8 4 = true from t4, show Inv.add L 8 6 = true from t6]; exact H)⟩
 ·intro L A w hL F H
  have t1 : L 1 = true := hL 1 rfl
  have t4 : L 4 = true := hL 4 rfl
  have t6 : L 6 = true := hL 6 rfl
  rw [t1, t4, t6] at H
  have H := H.pickN 6 0 [0, 1, 2, 3, 4, 5] []
  have F := F.tq [(1, pT g3 0), (2, pT g4 0), (3, pT g5 0), (6, .func (.func 128) #[] #[pT g3 0, pT g4 0]), (23, iI 0)] rfl
  refine hK8 _ _ (Sp fun _ kk => Av F fun A F => ?_)
  refine Zs 4 L106 sz_71 F H fun A w F H => ?_
  refine Zs 3 [iI 0] sz_37 F H fun A w F H => ?_
  refine Nl kk (wp_ret ?_)
  try dsimp only [Exit.then, Exit.inBlock, Exit.jump, Exit.noGoto]
  have H := H.pickN 6 0 [3, 5, 4, 1, 2, 0] []
  refine Sx.leave1 (fv := []) (vs := []) (cv := [pT g5 0, pT g3 0, pT g4 0]) F if_126 (cx28 (by omega) H) ?_
  rintro _ w ⟨rfl, H⟩
  refine ⟨_, Sx.res2 Tryz.results91 (res_row (i := 2) (xs := L106) rw_71 F H rfl rfl rfl rfl) (res_one (i := 0) (v := iI 0) one_37 F H rfl rfl rfl), ?_⟩
  exact ⟨_, rfl, rfl, H.pickN 6 0 [3, 4] []⟩
set_option maxRecDepth 100000 in
abbrev L122 (x0 x1 : Nat) : List Value := [sL x0 11 5 (x1 - 1 - 1 - 8 - 1), bF]
theorem cx30 {g1 g2 c1 : Nat} (hbc1 : 16 ≤ c1) (H : Sx.Own w0 w ((true, g1, [sL g2 10 6 (c1 - 1 - 1 - 8), bF]) :: (true, g2, L120) :: bs) (rs) K) : Cq 129 #[pT g1 0, iI 1] w fun x w' => ∃ g3 c2 : Nat, 1 ≤ c2 ∧ x = sL g3 0 1 c2 ∧ Sx.Own w0 w' ((true, g1, (L122 g2 c1)) :: (true, g2, L120) :: bs) (⟨true, sL g3 0 1 c2, 5, 1, 1, [iB 1]⟩ :: rs) K := by
 refine En Tryz.func129 Tryz.ntmps129 fun A F => ?_
 refine Sp fun _ kk => Av F fun A F => ?_
 refine Nl kk (Sx.seq fun K2 hK2 => Sp fun _ kk => ?_)
 iterate 4 (refine Av F ?_; intro A F)
 refine Zv F (d_lenS el_66 F rfl rfl) fun A F => ?_
 iterate 2 (refine Av F ?_; intro A F)
 refine Nl kk (condF F rfl (wp_skip (hK2 _ _ (Sp fun _ kk => ?_))))
 iterate 5 (refine Av F ?_; intro A F)
 refine Zv F (d_sliceH (h := 1) el_66 F rfl rfl rfl rfl (by omega)) fun A F => ?_
 refine Av F fun A F => ?_
 refine Nl kk (Sp fun _ kk => ?_)
 iterate 6 (refine Av F ?_; intro A F)
 refine Zv F (d_sliceL' (l := 1) el_66 F rfl rfl rfl rfl (by omega) (by omega)) fun A F => ?_
 iterate 2 (refine Av F ?_; intro A F)
 refine Zs 0 (L122 g2 c1) sz_66 F H fun A w F H => ?_
 refine Nl kk (Sp fun _ kk => Av F fun A F => ?_)
 have H := Sx.Own.nilR H 5 1
 refine Zr (mk := fun v => v) F (d_appendW (i := 0) (news := [iB 1]) el_66 F H rfl rfl rfl rfl rfl (fun j u hu => Sx.box_part (news := [iB 1]) (H.box 1 g2 _ rfl).1 rfl j u hu) rfl rfl (by decide) (by decide)) fun v1 A w F H => ?_
 obtain ⟨g3, c2, rfl, hbc2, hdc2⟩ := H.open (i := 0) rfl (by decide)
 refine Av F fun A F => ?_
 refine Nl kk (Wr (ret1 F Tryz.results129 (res_tmp F rfl) ?_))
 exact ⟨_, rfl, g3, c2, (by omega), rfl, H.pickN 2 1 [0, 1] [0]⟩
set_option maxRecDepth 100000 in
theorem cx31 {g1 g2 c1 : Nat} (hbc1 : 16 ≤ c1) (H : Sx.Own w0 w ((true, g1, [sL g2 10 6 (c1 - 1 - 1 - 8), bF]) :: (true, g2, L120) :: bs) (rs) K) : Cq 127 #[pT g1 0, iI 1] w fun x w' => x = iU 1 ∧ Sx.Own w0 w' ((true, g1, (L122 g2 c1)) :: (true, g2, L120) :: bs) (rs) K := by
 refine En Tryz.func127 Tryz.ntmps127 fun A F => ?_
 refine Sp fun _ kk => Av F fun A F => ?_
 refine Nl kk (Sp fun _ kk => Zr (mk := fun v => v) F (d_make (m := 16) Sx.undU8 Sx.infU8 rfl F H rfl rfl rfl (by decide) (by decide)) fun v1 A w F H => ?_)
 have H := H.xs (i := 0) (ys := L111) rfl (by kernel_rfl)
 obtain ⟨g3, c2, rfl, hbc2, hdc2⟩ := H.open (i := 0) rfl (by decide)
 refine Av F fun A F => ?_
 refine Nl kk (Sp fun _ kk => ?_)
 iterate 3 (refine Av F ?_; intro A F)
 refine Zx F (Do if_129 F (cx30 (by omega) H)) ?_
 rintro _ w ⟨g4, c3, hbc3, rfl, H⟩ A F
 have H := H.rowBox (i := 1) rfl
 refine Zx F (d_copyB (i := 0) (cs := [iB 1]) (us := L110) (m := 1) (el_66).1 (by kernel_rfl) F H rfl rfl rfl rfl (by decide) (fun j u hu => Sx.box_part (news := [iB 1]) ((H.rowBox (i := 0) rfl).box 0 g4 _ rfl).1 rfl j u hu) rfl rfl (Nat.le_of_ble_eq_true rfl) rfl) ?_
 rintro _ w ⟨rfl, H⟩ A F
 have H : Sx.Own w0 w ((true, g3, L110) :: (true, g1, (L122 g2 c1)) :: (true, g2, L120) :: bs) (⟨true, sL g4 0 1 c3, 5, 1, 1, [iB 1]⟩ :: ⟨false, undef, 5, 1, 0, []⟩ :: rs) K := H
 refine Nl kk (Sp fun _ kk => Av F fun A F => ?_)
 refine Zw F (d_call (vs := [sL g3 0 16 c2]) (v := .tuple #[.agg #[iU 0, iU 1], iI 0]) if_144 F H rfl rfl (Calls.val (Sx.take_box [1, 0, 0, 0, 0, 0, 0, 0, 0, 0, 0, 0, 0, 0, 0, 0] 1#128 rfl (by decide +kernel) (by decide) (H.box 0 g3 _ rfl).1 rfl) rfl (by kernel_rfl))) fun A w F H => ?_
 iterate 3 (refine Av F ?_; intro A F)
 refine Zb F (d_alloc H rfl [iU 0, iU 0] zero_26) fun g5 A w F H => ?_
 refine Zs 0 [iU 0, iU 1] sz_26 F H fun A w F H => ?_
 refine Av F fun A F => ?_
 refine Nl kk (Sp fun _ kk => ?_)
 iterate 3 (refine Av F ?_; intro A F)
 refine Nl kk (Wr (ret1 F Tryz.results127 (res_tmp F rfl) ?_))
 exact ⟨_, rfl, rfl, H.pickN 4 2 [2, 3] []⟩
set_option maxRecDepth 100000 in
abbrev L123 (x0 x1 : Nat) : List Value := [sL x0 13 3 (x1 - 1 - 1 - 8 - 1 - 2), bF]
theorem cx32 {g1 g2 c1 : Nat} (hbc1 : 16 ≤ c1) (H : Sx.Own w0 w ((true, g1, (L122 g2 c1)) :: (true, g2, L120) :: bs) (rs) K) : Cq 129 #[pT g1 0, iI 2] w fun x w' => ∃ g3 c2 : Nat, 2 ≤ c2 ∧ x = sL g3 0 2 c2 ∧ Sx.Own w0 w' ((true, g1, (L123 g2 c1)) :: (true, g2, L120) :: bs) (⟨true, sL g3 0 2 c2, 5, 1, 2, [iB 0, iB 0]⟩ :: rs) K := by
 refine En Tryz.func129 Tryz.ntmps129 fun A F => ?_
 refine Sp fun _ kk => Av F fun A F => ?_
 refine Nl kk (Sx.seq fun K2 hK2 => Sp fun _ kk => ?_)
 iterate 4 (refine Av F ?_; intro A F)
 refine Zv F (d_lenS el_66 F rfl rfl) fun A F => ?_
 iterate 2 (refine Av F ?_; intro A F)
 refine Nl kk (condF F rfl (wp_skip (hK2 _ _ (Sp fun _ kk => ?_))))
 iterate 5 (refine Av F ?_; intro A F)
 refine Zv F (d_sliceH (h := 2) el_66 F rfl rfl rfl rfl (by omega)) fun A F => ?_
 refine Av F fun A F => ?_
 refine Nl kk (Sp fun _ kk => ?_)
 iterate 6 (refine Av F ?_; intro A F)
 refine Zv F (d_sliceL' (l := 2) el_66 F rfl rfl rfl rfl (by omega) (by omega)) fun A F => ?_
 iterate 2 (refine Av F ?_; intro A F)
 refine Zs 0 (L123 g2 c1) sz_66 F H fun A w F H => ?_
 refine Nl kk (Sp fun _ kk => Av F fun A F => ?_)
 have H := Sx.Own.nilR H 5 1
 refine Zr (mk := fun v => v) F (d_appendW (i := 0) (news := [iB 0, iB 0]) el_66 F H rfl rfl rfl rfl rfl (fun j u hu => Sx.box_part (news := [iB 0, iB 0]) (H.box 1 g2 _ rfl).1 rfl j u hu) rfl rfl (by decide) (by decide)) fun v1 A w F H => ?_
 obtain ⟨g3, c2, rfl, hbc2, hdc2⟩ := H.open (i := 0) rfl (by decide)
 refine Av F fun A F => ?_
 refine Nl kk (Wr (ret1 F Tryz.results129 (res_tmp F rfl) ?_))
 exact ⟨_, rfl, g3, c2, (by omega), rfl, H.pickN 2 1 [0, 1] [0]⟩
set_option maxRecDepth 100000 in
theorem cx33 {g1 g2 c1 : Nat} (hbc1 : 16 ≤ c1) (H : Sx.Own w0 w ((true, g1, (L122 g2 c1)) :: (true, g2, L120) :: bs) (rs) K) : Cq 127 #[pT g1 0, iI 2] w fun x w' => x = iU 0 ∧ Sx.Own w0 w' ((true, g1, (L123 g2 c1)) :: (true, g2, L120) :: bs) (rs) K := by
 refine En Tryz.func127 Tryz.ntmps127 fun A F => ?_
 refine Sp fun _ kk => Av F fun A F => ?_
 refine Nl kk (Sp fun _ kk => Zr (mk := fun v => v) F (d_make (m := 16) Sx.undU8 Sx.infU8 rfl F H rfl rfl rfl (by decide) (by decide)) fun v1 A w F H => ?_)
 have H := H.xs (i := 0) (ys := L111) rfl (by kernel_rfl)
 obtain ⟨g3, c2, rfl, hbc2, hdc2⟩ := H.open (i := 0) rfl (by decide)
 refine Av F fun A F => ?_
 refine Nl kk (Sp fun _ kk => ?_)
 iterate 3 (refine Av F ?_; intro A F)
 refine Zx F (Do if_129 F (cx32 (by omega) H)) ?_
 rintro _ w ⟨g4, c3, hbc3, rfl, H⟩ A F
 have H := H.rowBox (i := 1) rfl
 refine Zx F (d_copyB (i := 0) (cs := [iB 0, iB 0]) (us := L111) (m := 2) (el_66).1 (by kernel_rfl) F H rfl rfl rfl rfl (by decide) (fun j u hu => Sx.box_part (news := [iB 0, iB 0]) ((H.rowBox (i := 0) rfl).box 0 g4 _ rfl).1 rfl j u hu) rfl rfl (Nat.le_of_ble_eq_true rfl) rfl) ?_
 rintro _ w ⟨rfl, H⟩ A F
 have H : Sx.Own w0 w ((true, g3, L111) :: (true, g1, (L123 g2 c1)) :: (true, g2, L120) :: bs) (⟨true, sL g4 0 2 c3, 5, 1, 2, [iB 0, iB 0]⟩ :: ⟨false, undef, 5, 1, 0, []⟩ :: rs) K := H
 refine Nl kk (Sp fun _ kk => Av F fun A F => ?_)
 refine Zw F (d_call (vs := [sL g3 0 16 c2]) (v := L121) if_144 F H rfl rfl (Calls.val (Sx.take_box [0, 0, 0, 0, 0, 0, 0, 0, 0, 0, 0, 0, 0, 0, 0, 0] 0#128 rfl (by decide +kernel) (by decide) (H.box 0 g3 _ rfl).1 rfl) rfl (by kernel_rfl))) fun A w F H => ?_
 iterate 3 (refine Av F ?_; intro A F)
 refine Zb F (d_alloc H rfl [iU 0, iU 0] zero_26) fun g5 A w F H => ?_
 refine Zs 0 [iU 0, iU 0] sz_26 F H fun A w F H => ?_
 refine Av F fun A F => ?_
 refine Nl kk (Sp fun _ kk => ?_)
 iterate 3 (refine Av F ?_; intro A F)
 refine Nl kk (Wr (ret1 F Tryz.results127 (res_tmp F rfl) ?_))
 exact ⟨_, rfl, rfl, H.pickN 4 2 [2, 3] []⟩
set_option maxRecDepth 100000 in
theorem cx34 {g1 g2 g3 g4 c1 : Nat} (hbc1 : 16 ≤ c1) (H : Sx.Own w0 w ((true, g1, [pT g3 0]) :: (true, g2, L116) :: (true, g3, (L122 g4 c1)) :: (true, g4, L120) :: bs) (rs) K) : Cq 128 #[pT g1 0, pT g2 0] w fun x w' => x = .tuple #[] ∧ Sx.Own w0 w' ((true, g1, [pT g3 0]) :: (true, g2, L116) :: (true, g3, (L123 g4 c1)) :: (true, g4, L120) :: bs) (rs) K := by
 refine En Tryz.func128 Tryz.ntmps128 fun A F => ?_
 refine Sx.plain ?_
 refine Av F fun A F => ?_
 have H := H.pickN 4 0 [2, 3, 0, 1] []
 refine Zx F (Do if_127 F (cx33 (by omega) H)) ?_
 rintro _ w ⟨rfl, H⟩ A F
 refine Zv F (d_conv (v := iI 0) F rfl rfl (by kernel_rfl)) fun A F => ?_
 refine Av F fun A F => ?_
 refine Zs 3 L116 sz_3 F H fun A w F H => ?_
 refine Sx.nil ?_
 try dsimp only [Exit.then, Exit.inBlock, Exit.jump, Exit.noGoto]
 refine Sx.end0 F Tryz.results128 ?_
 exact ⟨_, rfl, rfl, H.pickN 4 0 [2, 3, 0, 1] []⟩
set_option maxRecDepth 100000 in
theorem cx35 {g1 g2 g3 g4 g5 c1 : Nat} (hbc1 : 16 ≤ c1) (H : Sx.Own w0 w ((true, g1, [iI 0]) :: (true, g2, [pT g4 0]) :: (true, g3, L116) :: (true, g4, (L123 g5 c1)) :: (true, g5, L120) :: bs) (rs) K) : CallsD Tryz.prog 126 #[pT g1 0, pT g2 0, pT g3 0] .returning w fun e u' w' => u' = .returning ∧ ∃ x, e = .returned x ∧ x = .tuple #[] ∧ Sx.Own w0 w' ((true, g1, [iI 0]) :: (true, g2, [pT g4 0]) :: (true, g3, L116) :: (true, g4, (L123 g5 c1)) :: (true, g5, L120) :: bs) (rs) K := by
 refine Sx.enterDD (args := [pT g1 0, pT g2 0, pT g3 0]) Tryz.func126 rfl Tryz.ntmps126 (Nat.le_of_ble_eq_true rfl) (fun A F => ?_)
 refine Sx.seq fun K1 hK1 => Sp fun _ kk => ?_
 iterate 8 (refine Av F ?_; intro A F)
 refine Nl kk (condF F rfl (wp_skip (hK1 _ _ (Sp fun _ kk => ?_))))
 iterate 2 (refine Av F ?_; intro A F)
 refine Nl kk (condF F rfl (wp_skip ?_))
 try dsimp only [Exit.then, Exit.inBlock, Exit.jump, Exit.noGoto]
 refine Sx.end0 F Tryz.results126 ?_
 exact ⟨_, rfl, rfl, H.pickN 5 0 [0, 1, 2, 3, 4] []⟩
set_option maxRecDepth 100000 in
theorem cx36 {g1 g2 c1 : Nat} (hbc1 : 16 ≤ c1) (H : Sx.Own w0 w ((true, g1, [sL g2 10 6 (c1 - 1 - 1 - 8), bF]) :: (true, g2, L120) :: bs) (rs) K) : Cq 91 #[pT g1 0] w fun x w' => x = .tuple #[L115, iI 0] ∧ Sx.Own w0 w' ((true, g1, (L123 g2 c1)) :: (true, g2, L120) :: bs) (rs) K := by
 refine Sx.enterD (args := [pT g1 0]) Tryz.func91 rfl Tryz.ntmps91 (Nat.le_of_ble_eq_true rfl) (fun A F => ?_)
 refine Sp fun _ kk => Zb F (d_box F H rfl rfl [pT g1 0] rfl) fun g3 A w F H => ?_
 refine Zb F (d_alloc H rfl L107 zero_71) fun g4 A w F H => ?_
 refine Zb F (d_alloc H rfl [iI 0] zero_37) fun g5 A w F H => ?_
 refine Nl kk (Sp fun _ kk => Zv F (d_mkFunc (fv := []) (cv := [pT g5 0, pT g3 0, pT g4 0]) F rfl rfl rfl) fun A F => ?_)
 refine Sx.sDefer (fv := []) (vs := []) (cv := [pT g5 0, pT g3 0, pT g4 0]) F rfl rfl rfl (wanted_none rfl _) rfl ?_
 intro A F
 refine Nl kk (Sp fun _ kk => Av F fun A F => ?_)
 have H := H.pickN 5 0 [3, 4, 0, 1, 2] []
 refine Zx F (Do if_127 F (cx31 (by omega) H)) ?_
 rintro _ w ⟨rfl, H⟩ A F
 refine Zv F (d_conv (v := iI 1) F rfl rfl (by kernel_rfl)) fun A F => ?_
 refine Av F fun A F => ?_
 refine Zs 3 L116 sz_3 F H fun A w F H => ?_
 refine Nl kk (Sx.seq fun K4 hK4 => Sp fun _ kk => Av F fun A F => ?_)
 refine Zx F (Do if_86 F (cx10 H)) ?_
 rintro _ w ⟨rfl, H⟩ A F
 iterate 3 (refine Av F ?_; intro A F)
 refine Zb F (d_alloc H rfl L107 zero_71) fun g6 A w F H => ?_
 refine Zs 0 L116 sz_71 F H fun A w F H => ?_
 refine Av F fun A F => ?_
 refine Nl kk (Sp fun _ kk => Av F fun A F => ?_)
 refine Zv F (d_un (v := bF) F rfl rfl rfl) fun A F => ?_
 refine Nl kk (condF F rfl (wp_skip (hK4 _ _ (Sp fun _ kk => Zv F (d_mkFunc (fv := []) (cv := [pT g3 0, pT g4 0]) F rfl rfl rfl) fun A F => ?_))))
 refine Av F fun A F => ?_
 refine Nl kk (Sx.seq fun K8 hK8 => Sp fun _ kk => ?_)
 iterate 2 (refine Av F ?_; intro A F)
 refine Nl kk (wp_block (Sp fun _ kk => ?_))
 iterate 2 (refine Av F ?_; intro A F)
 refine Nl kk (condF F rfl (Sx.seq fun K11 hK11 => Sp fun _ kk => ?_))
 iterate 2 (refine Av F ?_; intro A F)
 refine Nl kk (condT F rfl (wp_skip (hK11 _ _ (condT F rfl (Sx.plain ?_)))))
 refine Av F fun A F => ?_
 have H := H.pickN 6 0 [5, 4, 1, 2, 0, 3] []
 refine Zx F (d_callCO (fv := []) (vs := []) (cv := [pT g3 0, pT g4 0]) if_128 F rfl rfl rfl (cx34 (by omega) H)) ?_
 rintro _ w ⟨rfl, H⟩ A F
 refine Sx.nil (hK8 _ _ (Sp fun _ kk => Av F fun A F => ?_))
 refine Zs 1 L116 sz_71 F H fun A w F H => ?_
 refine Zs 5 [iI 0] sz_37 F H fun A w F H => ?_
 refine Nl kk (wp_ret ?_)
 try dsimp only [Exit.then, Exit.inBlock, Exit.jump, Exit.noGoto]
 have H := H.pickN 6 0 [5, 0, 1, 2, 3, 4] []
 refine Sx.leave1 (fv := []) (vs := []) (cv := [pT g5 0, pT g3 0, pT g4 0]) F if_126 (cx35 (by omega) H) ?_
 rintro _ w ⟨rfl, H⟩
 refine ⟨_, Sx.res2 Tryz.results91 (res_row (i := 2) (xs := L116) rw_71 F H rfl rfl rfl rfl) (res_one (i := 0) (v := iI 0) one_37 F H rfl rfl rfl), ?_⟩
 exact ⟨_, rfl, rfl, H.pickN 6 0 [3, 4] []⟩
set_option maxRecDepth 100000 in
abbrev L124 (x0 x1 : Nat) : List Value := [sL x0 14 2 (x1 - 1 - 1 - 8 - 1 - 2 - 1), bF]
theorem cx37 {g1 g2 c1 : Nat} (hbc1 : 16 ≤ c1) (H : Sx.Own w0 w ((true, g1, (L123 g2 c1)) :: (true, g2, L120) :: bs) (rs) K) : Cq 129 #[pT g1 0, iI 1] w fun x w' => ∃ g3 c2 : Nat, 1 ≤ c2 ∧ x = sL g3 0 1 c2 ∧ Sx.Own w0 w' ((true, g1, (L124 g2 c1)) :: (true, g2, L120) :: bs) (⟨true, sL g3 0 1 c2, 5, 1, 1, [iB 3]⟩ :: rs) K := by
 refine En Tryz.func129 Tryz.ntmps129 fun A F => ?_
 refine Sp fun _ kk => Av F fun A F => ?_
 refine Nl kk (Sx.seq fun K2 hK2 => Sp fun _ kk => ?_)
 iterate 4 (refine Av F ?_; intro A F)
 refine Zv F (d_lenS el_66 F rfl rfl) fun A F => ?_
 iterate 2 (refine Av F ?_; intro A F)
 refine Nl kk (condF F rfl (wp_skip (hK2 _ _ (Sp fun _ kk => ?_))))
 iterate 5 (refine Av F ?_; intro A F)
 refine Zv F (d_sliceH (h := 1) el_66 F rfl rfl rfl rfl (by omega)) fun A F => ?_
 refine Av F fun A F => ?_
 refine Nl kk (Sp fun _ kk => ?_)
 iterate 6 (refine Av F ?_; intro A F)
 refine Zv F (d_sliceL' (l := 1) el_66 F rfl rfl rfl rfl (by omega) (by omega)) fun A F => ?_
 iterate 2 (refine Av F ?_; intro A F)
 refine Zs 0 (L124 g2 c1) sz_66 F H fun A w F H => ?_
 refine Nl kk (Sp fun _ kk => Av F fun A F => ?_)
 have H := Sx.Own.nilR H 5 1
 refine Zr (mk := fun v => v) F (d_appendW (i := 0) (news := [iB 3]) el_66 F H rfl rfl rfl rfl rfl (fun j u hu => Sx.box_part (news := [iB 3]) (H.box 1 g2 _ rfl).1 rfl j u hu) rfl rfl (by decide) (by decide)) fun v1 A w F H => ?_
 obtain ⟨g3, c2, rfl, hbc2, hdc2⟩ := H.open (i := 0) rfl (by decide)
 refine Av F fun A F => ?_
 refine Nl kk (Wr (ret1 F Tryz.results129 (res_tmp F rfl) ?_))
 exact ⟨_, rfl, g3, c2, (by omega), rfl, H.pickN 2 1 [0, 1] [0]⟩
set_option maxRecDepth 100000 in
abbrev L125 : List Value := [iB 3, iB 0, iB 0, iB 0, iB 0, iB 0, iB 0, iB 0, iB 0, iB 0, iB 0, iB 0, iB 0, iB 0, iB 0, iB 0]
theorem cx38 {g1 g2 c1 : Nat} (hbc1 : 16 ≤ c1) (H : Sx.Own w0 w ((true, g1, (L123 g2 c1)) :: (true, g2, L120) :: bs) (rs) K) : Cq 127 #[pT g1 0, iI 1] w fun x w' => x = iU 3 ∧ Sx.Own w0 w' ((true, g1, (L124 g2 c1)) :: (true, g2, L120) :: bs) (rs) K := by
 refine En Tryz.func127 Tryz.ntmps127 fun A F => ?_
 refine Sp fun _ kk => Av F fun A F => ?_
 refine Nl kk (Sp fun _ kk => Zr (mk := fun v => v) F (d_make (m := 16) Sx.undU8 Sx.infU8 rfl F H rfl rfl rfl (by decide) (by decide)) fun v1 A w F H => ?_)
 have H := H.xs (i := 0) (ys := L111) rfl (by kernel_rfl)
 obtain ⟨g3, c2, rfl, hbc2, hdc2⟩ := H.open (i := 0) rfl (by decide)
 refine Av F fun A F => ?_
 refine Nl kk (Sp fun _ kk => ?_)
 iterate 3 (refine Av F ?_; intro A F)
 refine Zx F (Do if_129 F (cx37 (by omega) H)) ?_
 rintro _ w ⟨g4, c3, hbc3, rfl, H⟩ A F
 have H := H.rowBox (i := 1) rfl
 refine Zx F (d_copyB (i := 0) (cs := [iB 3]) (us := L125) (m := 1) (el_66).1 (by kernel_rfl) F H rfl rfl rfl rfl (by decide) (fun j u hu => Sx.box_part (news := [iB 3]) ((H.rowBox (i := 0) rfl).box 0 g4 _ rfl).1 rfl j u hu) rfl rfl (Nat.le_of_ble_eq_true rfl) rfl) ?_
 rintro _ w ⟨rfl, H⟩ A F
 have H : Sx.Own w0 w ((true, g3, L125) :: (true, g1, (L124 g2 c1)) :: (true, g2, L120) :: bs) (⟨true, sL g4 0 1 c3, 5, 1, 1, [iB 3]⟩ :: ⟨false, undef, 5, 1, 0, []⟩ :: rs) K := H
 refine Nl kk (Sp fun _ kk => Av F fun A F => ?_)
 refine Zw F (d_call (vs := [sL g3 0 16 c2]) (v := .tuple #[.agg #[iU 0, iU 3], iI 0]) if_144 F H rfl rfl (Calls.val (Sx.take_box [3, 0, 0, 0, 0, 0, 0, 0, 0, 0, 0, 0, 0, 0, 0, 0] 3#128 rfl (by decide +kernel) (by decide) (H.box 0 g3 _ rfl).1 rfl) rfl (by kernel_rfl))) fun A w F H => ?_
 iterate 3 (refine Av F ?_; intro A F)
 refine Zb F (d_alloc H rfl [iU 0, iU 0] zero_26) fun g5 A w F H => ?_
 refine Zs 0 [iU 0, iU 3] sz_26 F H fun A w F H => ?_
 refine Av F fun A F => ?_
 refine Nl kk (Sp fun _ kk => ?_)
 iterate 3 (refine Av F ?_; intro A F)
 refine Nl kk (Wr (ret1 F Tryz.results127 (res_tmp F rfl) ?_))
 exact ⟨_, rfl, rfl, H.pickN 4 2 [2, 3] []⟩
set_option maxRecDepth 100000 in
theorem cx39 {g1 g2 c1 : Nat} (hbc1 : 16 ≤ c1) (H : Sx.Own w0 w ((true, g1, (L124 g2 c1)) :: (true, g2, L120) :: bs) (rs) K) : Cq 129 #[pT g1 0, iI 2] w fun x w' => ∃ g3 c2 : Nat, 2 ≤ c2 ∧ x = sL g3 0 2 c2 ∧ Sx.Own w0 w' ((true, g1, [.slice (if (c1 - 1 - 1 - 8 - 1 - 2 - 1) = 2 then some ⟨g2, 14, none⟩ else some ⟨g2, 14 + 2 * 1, none⟩) 0 ((c1 - 1 - 1 - 8 - 1 - 2 - 1) - 2), bF]) :: (true, g2, L120) :: bs) (⟨true, sL g3 0 2 c2, 5, 1, 2, [iB 0, iB 0]⟩ :: rs) K := by
 refine En Tryz.func129 Tryz.ntmps129 fun A F => ?_
 refine Sp fun _ kk => Av F fun A F => ?_
 refine Nl kk (Sx.seq fun K2 hK2 => Sp fun _ kk => ?_)
 iterate 4 (refine Av F ?_; intro A F)
 refine Zv F (d_lenS el_66 F rfl rfl) fun A F => ?_
 iterate 2 (refine Av F ?_; intro A F)
 refine Nl kk (condF F rfl (wp_skip (hK2 _ _ (Sp fun _ kk => ?_))))
 iterate 5 (refine Av F ?_; intro A F)
 refine Zv F (d_sliceH (h := 2) el_66 F rfl rfl rfl rfl (by omega)) fun A F => ?_
 refine Av F fun A F => ?_
 refine Nl kk (Sp fun _ kk => ?_)
 iterate 6 (refine Av F ?_; intro A F)
 refine Zv F (d_sliceL (l := 2) el_66 F rfl rfl rfl rfl (by omega)) fun A F => ?_
 iterate 2 (refine Av F ?_; intro A F)
 refine Zs 0 [.slice (if (c1 - 1 - 1 - 8 - 1 - 2 - 1) = 2 then some ⟨g2, 14, none⟩ else some ⟨g2, 14 + 2 * 1, none⟩) 0 ((c1 - 1 - 1 - 8 - 1 - 2 - 1) - 2), bF] sz_66 F H fun A w F H => ?_
 refine Nl kk (Sp fun _ kk => Av F fun A F => ?_)
 have H := Sx.Own.nilR H 5 1
 refine Zr (mk := fun v => v) F (d_appendW (i := 0) (news := [iB 0, iB 0]) el_66 F H rfl rfl rfl rfl rfl (fun j u hu => Sx.box_part (news := [iB 0, iB 0]) (H.box 1 g2 _ rfl).1 rfl j u hu) rfl rfl (by decide) (by decide)) fun v1 A w F H => ?_
 obtain ⟨g3, c2, rfl, hbc2, hdc2⟩ := H.open (i := 0) rfl (by decide)
 refine Av F fun A F => ?_
 refine Nl kk (Wr (ret1 F Tryz.results129 (res_tmp F rfl) ?_))
 exact ⟨_, rfl, g3, c2, (by omega), rfl, H.pickN 2 1 [0, 1] [0]⟩
set_option maxRecDepth 100000 in
theorem cx40 {g1 g2 c1 : Nat} (hbc1 : 16 ≤ c1) (H : Sx.Own w0 w ((true, g1, (L124 g2 c1)) :: (true, g2, L120) :: bs) (rs) K) : Cq 127 #[pT g1 0, iI 2] w fun x w' => x = iU 0 ∧ Sx.Own w0 w' ((true, g1, [.slice (if (c1 - 1 - 1 - 8 - 1 - 2 - 1) = 2 then some ⟨g2, 14, none⟩ else some ⟨g2, 14 + 2 * 1, none⟩) 0 ((c1 - 1 - 1 - 8 - 1 - 2 - 1) - 2), bF]) :: (true, g2, L120) :: bs) (rs) K := by
 refine En Tryz.func127 Tryz.ntmps127 fun A F => ?_
 refine Sp fun _ kk => Av F fun A F => ?_
 refine Nl kk (Sp fun _ kk => Zr (mk := fun v => v) F (d_make (m := 16) Sx.undU8 Sx.infU8 rfl F H rfl rfl rfl (by decide) (by decide)) fun v1 A w F H => ?_)
 have H := H.xs (i := 0) (ys := L111) rfl (by kernel_rfl)
 obtain ⟨g3, c2, rfl, hbc2, hdc2⟩ := H.open (i := 0) rfl (by decide)
 refine Av F fun A F => ?_
 refine Nl kk (Sp fun _ kk => ?_)
 iterate 3 (refine Av F ?_; intro A F)
 refine Zx F (Do if_129 F (cx39 (by omega) H)) ?_
 rintro _ w ⟨g4, c3, hbc3, rfl, H⟩ A F
 have H := H.rowBox (i := 1) rfl
 refine Zx F (d_copyB (i := 0) (cs := [iB 0, iB 0]) (us := L111) (m := 2) (el_66).1 (by kernel_rfl) F H rfl rfl rfl rfl (by decide) (fun j u hu => Sx.box_part (news := [iB 0, iB 0]) ((H.rowBox (i := 0) rfl).box 0 g4 _ rfl).1 rfl j u hu) rfl rfl (Nat.le_of_ble_eq_true rfl) rfl) ?_
 rintro _ w ⟨rfl, H⟩ A F
 have H : Sx.Own w0 w ((true, g3, L111) :: (true, g1, [.slice (if (c1 - 1 - 1 - 8 - 1 - 2 - 1) = 2 then some ⟨g2, 14, none⟩ else some ⟨g2, 14 + 2 * 1, none⟩) 0 ((c1 - 1 - 1 - 8 - 1 - 2 - 1) - 2), bF]) :: (true, g2, L120) :: bs) (⟨true, sL g4 0 2 c3, 5, 1, 2, [iB 0, iB 0]⟩ :: ⟨false, undef, 5, 1, 0, []⟩ :: rs) K := H
 refine Nl kk (Sp fun _ kk => Av F fun A F => ?_)
 refine Zw F (d_call (vs := [sL g3 0 16 c2]) (v := L121) if_144 F H rfl rfl (Calls.val (Sx.take_box [0, 0, 0, 0, 0, 0, 0, 0, 0, 0, 0, 0, 0, 0, 0, 0] 0#128 rfl (by decide +kernel) (by decide) (H.box 0 g3 _ rfl).1 rfl) rfl (by kernel_rfl))) fun A w F H => ?_
 iterate 3 (refine Av F ?_; intro A F)
 refine Zb F (d_alloc H rfl [iU 0, iU 0] zero_26) fun g5 A w F H => ?_
 refine Zs 0 [iU 0, iU 0] sz_26 F H fun A w F H => ?_
 refine Av F fun A F => ?_
 refine Nl kk (Sp fun _ kk => ?_)
 iterate 3 (refine Av F ?_; intro A F)
 refine Nl kk (Wr (ret1 F Tryz.results127 (res_tmp F rfl) ?_))
 exact ⟨_, rfl, rfl, H.pickN 4 2 [2, 3] []⟩
set_option maxRecDepth 100000 in
theorem cx41 {g1 g2 g3 g4 c1 : Nat} (hbc1 : 16 ≤ c1) (H : Sx.Own w0 w ((true, g1, [pT g3 0]) :: (true, g2, L118) :: (true, g3, (L124 g4 c1)) :: (true, g4, L120) :: bs) (rs) K) : Cq 128 #[pT g1 0, pT g2 0] w fun x w' => x = .tuple #[] ∧ Sx.Own w0 w' ((true, g1, [pT g3 0]) :: (true, g2, L118) :: (true, g3, [.slice (if (c1 - 1 - 1 - 8 - 1 - 2 - 1) = 2 then some ⟨g4, 14, none⟩ else some ⟨g4, 14 + 2 * 1, none⟩) 0 ((c1 - 1 - 1 - 8 - 1 - 2 - 1) - 2), bF]) :: (true, g4, L120) :: bs) (rs) K := by
 refine En Tryz.func128 Tryz.ntmps128 fun A F => ?_
 refine Sx.plain ?_
 refine Av F fun A F => ?_
 have H := H.pickN 4 0 [2, 3, 0, 1] []
 refine Zx F (Do if_127 F (cx40 (by omega) H)) ?_
 rintro _ w ⟨rfl, H⟩ A F
 refine Zv F (d_conv (v := iI 0) F rfl rfl (by kernel_rfl)) fun A F => ?_
 refine Av F fun A F => ?_
 refine Zs 3 L118 sz_3 F H fun A w F H => ?_
 refine Sx.nil ?_
 try dsimp only [Exit.then, Exit.inBlock, Exit.jump, Exit.noGoto]
 refine Sx.end0 F Tryz.results128 ?_
 exact ⟨_, rfl, rfl, H.pickN 4 0 [2, 3, 0, 1] []⟩
set_option maxRecDepth 100000 in
theorem cx42 {g1 g2 g3 g4 c1 g5 : Nat} (hbc1 : 16 ≤ c1) (H : Sx.Own w0 w ((true, g1, [iI 0]) :: (true, g2, [pT g4 0]) :: (true, g3, L118) :: (true, g4, [.slice (if (c1 - 1 - 1 - 8 - 1 - 2 - 1) = 2 then some ⟨g5, 14, none⟩ else some ⟨g5, 14 + 2 * 1, none⟩) 0 ((c1 - 1 - 1 - 8 - 1 - 2 - 1) - 2), bF]) :: (true, g5, L120) :: bs) (rs) K) : CallsD Tryz.prog 126 #[pT g1 0, pT g2 0, pT g3 0] .returning w fun e u' w' => u' = .returning ∧ ∃ x, e = .returned x ∧ x = .tuple #[] ∧ Sx.Own w0 w' ((true, g1, [iI 0]) :: (true, g2, [pT g4 0]) :: (true, g3, L118) :: (true, g4, [.slice (if (c1 - 1 - 1 - 8 - 1 - 2 - 1) = 2 then some ⟨g5, 14, none⟩ else some ⟨g5, 14 + 2 * 1, none⟩) 0 ((c1 - 1 - 1 - 8 - 1 - 2 - 1) - 2), bF]) :: (true, g5, L120) :: bs) (rs) K := by
 refine Sx.enterDD (args := [pT g1 0, pT g2 0, pT g3 0]) Tryz.func126 rfl Tryz.ntmps126 (Nat.le_of_ble_eq_true rfl) (fun A F => ?_)
 refine Sx.seq fun K1 hK1 => Sp fun _ kk => ?_
 iterate 8 (refine Av F ?_; intro A F)
 refine Nl kk (condF F rfl (wp_skip (hK1 _ _ (Sp fun _ kk => ?_))))
 iterate 2 (refine Av F ?_; intro A F)
 refine Nl kk (condF F rfl (wp_skip ?_))
 try dsimp only [Exit.then, Exit.inBlock, Exit.jump, Exit.noGoto]
 refine Sx.end0 F Tryz.results126 ?_
 exact ⟨_, rfl, rfl, H.pickN 5 0 [0, 1, 2, 3, 4] []⟩
set_option maxRecDepth 100000 in
theorem cx43 {g1 g2 c1 : Nat} (hbc1 : 16 ≤ c1) (H : Sx.Own w0 w ((true, g1, (L123 g2 c1)) :: (true, g2, L120) :: bs) (rs) K) : Cq 91 #[pT g1 0] w fun x w' => x = .tuple #[L117, iI 0] ∧ Sx.Own w0 w' ((true, g1, [.slice (if (c1 - 1 - 1 - 8 - 1 - 2 - 1) = 2 then some ⟨g2, 14, none⟩ else some ⟨g2, 14 + 2 * 1, none⟩) 0 ((c1 - 1 - 1 - 8 - 1 - 2 - 1) - 2), bF]) :: (true, g2, L120) :: bs) (rs) K := by
 refine Sx.enterD (args := [pT g1 0]) Tryz.func91 rfl Tryz.ntmps91 (Nat.le_of_ble_eq_true rfl) (fun A F => ?_)
 refine Sp fun _ kk => Zb F (d_box F H rfl rfl [pT g1 0] rfl) fun g3 A w F H => ?_
 refine Zb F (d_alloc H rfl L107 zero_71) fun g4 A w F H => ?_
 refine Zb F (d_alloc H rfl [iI 0] zero_37) fun g5 A w F H => ?_
 refine Nl kk (Sp fun _ kk => Zv F (d_mkFunc (fv := []) (cv := [pT g5 0, pT g3 0, pT g4 0]) F rfl rfl rfl) fun A F => ?_)
 refine Sx.sDefer (fv := []) (vs := []) (cv := [pT g5 0, pT g3 0, pT g4 0]) F rfl rfl rfl (wanted_none rfl _) rfl ?_
 intro A F
 refine Nl kk (Sp fun _ kk => Av F fun A F => ?_)
 have H := H.pickN 5 0 [3, 4, 0, 1, 2] []
 refine Zx F (Do if_127 F (cx38 (by omega) H)) ?_
 rintro _ w ⟨rfl, H⟩ A F
 refine Zv F (d_conv (v := iI 3) F rfl rfl (by kernel_rfl)) fun A F => ?_
 refine Av F fun A F => ?_
 refine Zs 3 L118 sz_3 F H fun A w F H => ?_
 refine Nl kk (Sx.seq fun K4 hK4 => Sp fun _ kk => Av F fun A F => ?_)
 refine Zx F (Do if_86 F (cx16 H)) ?_
 rintro _ w ⟨rfl, H⟩ A F
 iterate 3 (refine Av F ?_; intro A F)
 refine Zb F (d_alloc H rfl L107 zero_71) fun g6 A w F H => ?_
 refine Zs 0 L118 sz_71 F H fun A w F H => ?_
 refine Av F fun A F => ?_
 refine Nl kk (Sp fun _ kk => Av F fun A F => ?_)
 refine Zv F (d_un (v := bF) F rfl rfl rfl) fun A F => ?_
 refine Nl kk (condF F rfl (wp_skip (hK4 _ _ (Sp fun _ kk => Zv F (d_mkFunc (fv := []) (cv := [pT g3 0, pT g4 0]) F rfl rfl rfl) fun A F => ?_))))
 refine Av F fun A F => ?_
 refine Nl kk (Sx.seq fun K8 hK8 => Sp fun _ kk => ?_)
 iterate 2 (refine Av F ?_; intro A F)
 refine Nl kk (wp_block (Sp fun _ kk => ?_))
 iterate 2 (refine Av F ?_; intro A F)
 refine Nl kk (condF F rfl (Sx.seq fun K11 hK11 => Sp fun _ kk => ?_))
 iterate 2 (refine Av F ?_; intro A F)
 refine Nl kk (condF F rfl (Sp fun _ kk => ?_))
 iterate 2 (refine Av F ?_; intro A F)
 refine Nl kk (condF F rfl (Sx.plain ?_))
 iterate 2 (refine Av F ?_; intro A F)
 refine Sx.nil (hK11 _ _ (condT F rfl (Sx.plain ?_)))
 refine Av F fun A F => ?_
 have H := H.pickN 6 0 [5, 4, 1, 2, 0, 3] []
 refine Zx F (d_callCO (fv := []) (vs := []) (cv := [pT g3 0, pT g4 0]) if_128 F rfl rfl rfl (cx41 (by omega) H)) ?_
 rintro _ w ⟨rfl, H⟩ A F
 refine Sx.nil (hK8 _ _ (Sp fun _ kk => Av F fun A F => ?_))
 refine Zs 1 L118 sz_71 F H fun A w F H => ?_
 refine Zs 5 [iI 0] sz_37 F H fun A w F H => ?_
 refine Nl kk (wp_ret ?_)
 try dsimp only [Exit.then, Exit.inBlock, Exit.jump, Exit.noGoto]
 have H := H.pickN 6 0 [5, 0, 1, 2, 3, 4] []
 refine Sx.leave1 (fv := []) (vs := []) (cv := [pT g5 0, pT g3 0, pT g4 0]) F if_126 (cx42 (by omega) H) ?_
 rintro _ w ⟨rfl, H⟩
 refine ⟨_, Sx.res2 Tryz.results91 (res_row (i := 2) (xs := L118) rw_71 F H rfl rfl rfl rfl) (res_one (i := 0) (v := iI 0) one_37 F H rfl rfl rfl), ?_⟩
 exact ⟨_, rfl, rfl, H.pickN 6 0 [3, 4] []⟩
end
end Go.Proofs.YteecadoakmdibaaGreat
