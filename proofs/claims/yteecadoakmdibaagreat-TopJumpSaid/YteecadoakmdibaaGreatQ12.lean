/- What the proof of TopJump leans on: part 12. -/
import Derived.Test.YteecadoakmdibaaGreatQ2
import Derived.Test.YteecadoakmdibaaGreatQ7
import Derived.Test.YteecadoakmdibaaGreatQ8
import Derived.Test.YteecadoakmdibaaGreatQ10
import Derived.Test.YteecadoakmdibaaGreatQ11
set_option maxRecDepth 100000
set_option maxHeartbeats 4000000
namespace Go.Proofs.YteecadoakmdibaaGreat
open Go Go.RowKit
section
open Sx
variable {w0 w : World} {bs : List Sx.Bx} {rs : List Sx.Rx} {K : Nat → Option Obj}
set_option maxRecDepth 100000 in
theorem cx85 {g1 g2 g3 c1 g4 g5 g6 : Nat} (hbc1 : 1 ≤ c1) (H : Sx.Own w0 w ((true, g1, [sL g3 0 1 c1, iI 1]) :: (true, g2, (L140 g4)) :: (true, g4, L151) :: (true, g5, (L153 g6)) :: (true, g6, L139) :: bs) (⟨true, sL g3 0 1 c1, 217, 2, 1, [iI 0, pT g5 0]⟩ :: rs) K) : Cq 134 #[pT g1 0, iI 1, pT g2 0] w fun x w' => ∃ g8 c2 : Nat, 2 ≤ c2 ∧ x = iI 0 ∧ Sx.Own w0 w' ((true, g1, [sL g8 0 2 c2, iI 2]) :: (true, g2, (L140 g4)) :: (true, g4, L151) :: (true, g5, (L153 g6)) :: (true, g6, L139) :: bs) (⟨true, sL g8 0 2 c2, 217, 2, 2, [iI 0, pT g5 0, iI 1, pT g2 0]⟩ :: rs) K := by
 refine En Tryz.func134 Tryz.ntmps134 fun A F => ?_
 refine Sp fun _ kk => Av F fun A F => ?_
 refine Nl kk (Sx.seq fun K2 hK2 => wp_block (Sp fun _ kk => ?_))
 iterate 4 (refine Av F ?_; intro A F)
 refine Zv F (d_lenS el_213 F rfl rfl) fun A F => ?_
 iterate 2 (refine Av F ?_; intro A F)
 refine Nl kk (condF F rfl (Sp fun _ kk => ?_))
 iterate 11 (refine Av F ?_; intro A F)
 refine Nl kk (condF F rfl (wp_skip (hK2 _ _ (Sp fun _ kk => ?_))))
 iterate 7 (refine Av F ?_; intro A F)
 refine Zv F (d_build (qs := #[(0, iI 1), (1, pT g2 0)]) (v := .agg #[iI 1, pT g2 0]) F rfl rfl (by kernel_rfl)) fun A F => ?_
 refine Zg (mk := fun g => sL g 0 1 1) F (d_lit (qs := #[(0, .agg #[iI 1, pT g2 0])]) (cs := #[iI 1, pT g2 0]) (E := 217) F H rfl rfl (fun _ => by kernel_rfl)) fun g7 A w F H => ?_
 refine Zr (mk := fun v => v) F (d_append (i := 0) (j := 0) el_213 F H rfl rfl rfl rfl rfl rfl rfl rfl (by decide) (by decide)) fun v1 A w F H => ?_
 obtain ⟨g8, c2, rfl, hbc2, hdc2⟩ := H.open (i := 0) rfl (by decide)
 iterate 2 (refine Av F ?_; intro A F)
 refine Zs 1 [sL g8 0 2 c2, iI 1] sz_213 F H fun A w F H => ?_
 refine Nl kk (Sp fun _ kk => ?_)
 iterate 2 (refine Av F ?_; intro A F)
 refine Zn (iI 2) F fun A F => ?_
 iterate 2 (refine Av F ?_; intro A F)
 refine Zs 1 [sL g8 0 2 c2, iI 2] sz_3 F H fun A w F H => ?_
 refine Nl kk (Sp fun _ kk => Av F fun A F => ?_)
 refine Nl kk (Wr (ret1 F Tryz.results134 (res_tmp F rfl) ?_))
 exact ⟨_, rfl, g8, c2, (by omega), rfl, H.pickN 6 1 [1, 2, 3, 4, 5] [0]⟩
set_option maxRecDepth 100000 in
theorem cx86 {g1 g2 g3 c1 g4 g5 g6 : Nat} (hbc1 : 1 ≤ c1) (H : Sx.Own w0 w ((true, g1, [sL g3 0 1 c1, iI 1]) :: (true, g2, (L140 g4)) :: (true, g4, L151) :: (true, g5, (L153 g6)) :: (true, g6, L139) :: bs) (⟨true, sL g3 0 1 c1, 217, 2, 1, [iI 0, pT g5 0]⟩ :: rs) K) : Cq 100 #[pT g1 0, pT g2 0] w fun x w' => ∃ g7 c2 : Nat, 2 ≤ c2 ∧ x = .tuple #[iI 1, iI 0] ∧ Sx.Own w0 w' ((true, g1, [sL g7 0 2 c2, iI 2]) :: (true, g2, (L140 g4)) :: (true, g4, L151) :: (true, g5, (L153 g6)) :: (true, g6, L139) :: bs) (⟨true, sL g7 0 2 c2, 217, 2, 2, [iI 0, pT g5 0, iI 1, pT g2 0]⟩ :: rs) K := by
 refine En Tryz.func100 Tryz.ntmps100 fun A F => ?_
 refine Sp fun _ kk => ?_
 iterate 2 (refine Av F ?_; intro A F)
 refine Nl kk (Sp fun _ kk => ?_)
 iterate 5 (refine Av F ?_; intro A F)
 refine Nl kk (Sx.seq fun K3 hK3 => wp_block (Sp fun _ kk => ?_))
 iterate 4 (refine Av F ?_; intro A F)
 refine Zv F (d_lenS el_213 F rfl rfl) fun A F => ?_
 iterate 2 (refine Av F ?_; intro A F)
 refine Nl kk (condF F rfl (Sp fun _ kk => ?_))
 iterate 3 (refine Av F ?_; intro A F)
 refine Nl kk (condF F rfl (wp_skip (hK3 _ _ (Sp fun _ kk => ?_))))
 iterate 4 (refine Av F ?_; intro A F)
 refine Zx F (Do if_134 F (cx85 (by omega) H)) ?_
 rintro _ w ⟨g7, c2, hbc2, rfl, H⟩ A F
 iterate 2 (refine Av F ?_; intro A F)
 refine Nl kk (Wr (ret2 F Tryz.results100 (res_tmp F rfl) (res_tmp F rfl) ?_))
 exact ⟨_, rfl, g7, c2, (by omega), rfl, H.pickN 5 1 [0, 1, 2, 3, 4] [0]⟩
set_option maxRecDepth 100000 in
abbrev L154 : List Sx.Bx := [(false, 0, [pT 0 0, iU 0, iU 9223372036854775808]), (false, 0, [iI 1, iU 0, iU 0, iU 4611686018427387904, iU 0, iU 0, iU 0, iU 0, iU 0, iU 0, iU 0, iU 0, nS, iI 1, iU 4611686018427387904, iU 0, iU 0, iU 0, iU 0, iU 0, iU 0, iU 0, iU 0, iU 0, iU 0, iW 0, iW 0, bF])]
theorem cx87 {g1 g2 g3 c1 g4 g5 : Nat} (hbc1 : 1 ≤ c1) (H : Sx.Own w0 w ((true, g1, [pT g2 0, iI 1, iU 0]) :: (true, g2, [sL g3 0 1 c1, iI 1]) :: (true, g4, (L140 g5)) :: (true, g5, L139) :: bs) (⟨true, sL g3 0 1 c1, 217, 2, 1, [iI 0, pT g4 0]⟩ :: rs) K) : Cq 72 #[pT g1 0, iI 0] w fun x w' => ∃ g13 c3 g9 g10 : Nat, 2 ≤ c3 ∧ x = .tuple #[iI 1, iI 0] ∧ Sx.Own w0 w' ((true, g1, [pT g2 0, iI 1, iU 0]) :: (true, g2, [sL g13 0 2 c3, iI 2]) :: (true, g4, (L153 g5)) :: (true, g5, L139) :: (true, g9, (L140 g10)) :: (true, g10, L151) :: bs) (⟨true, sL g13 0 2 c3, 217, 2, 2, [iI 0, pT g4 0, iI 1, pT g9 0]⟩ :: rs) K := by
 refine En Tryz.func72 Tryz.ntmps72 fun A F => ?_
 refine Sp fun _ kk => ?_
 iterate 2 (refine Av F ?_; intro A F)
 refine Nl kk (Sp fun _ kk => ?_)
 iterate 2 (refine Av F ?_; intro A F)
 refine Zx F (Do if_95 F (cx73 (by omega) H)) ?_
 rintro _ w ⟨rfl, H⟩ A F
 iterate 5 (refine Av F ?_; intro A F)
 refine Nl kk (Sx.seq fun K3 hK3 => wp_block (Sp fun _ kk => ?_))
 iterate 3 (refine Av F ?_; intro A F)
 refine Nl kk (condF F rfl (Sp fun _ kk => ?_))
 iterate 4 (refine Av F ?_; intro A F)
 have H := H.pickN 4 1 [1, 2, 3, 0] [0]
 refine Zx F (Do if_82 F (cx74 (by omega) H)) ?_
 rintro _ w ⟨g6, c2, hbc2, rfl, H⟩ A F
 refine Zv F (d_lenS el_54 F rfl rfl) fun A F => ?_
 iterate 2 (refine Av F ?_; intro A F)
 refine Nl kk (condF F rfl (Sp fun _ kk => ?_))
 iterate 4 (refine Av F ?_; intro A F)
 refine Zx F (Do if_96 F (cx75 (by omega) H)) ?_
 rintro _ w ⟨rfl, H⟩ A F
 iterate 2 (refine Av F ?_; intro A F)
 refine Nl kk (condF F rfl (wp_skip (hK3 _ _ (Sp fun _ kk => Av F fun A F => ?_))))
 have H := H.pickN 4 2 [1, 2, 0, 3] [0, 1]
 refine Zx F (Do if_84 F (cx77 H)) ?_
 rintro _ w ⟨rfl, H⟩ A F
 refine Zx F (Do if_97 F (cx80 H)) ?_
 rintro _ w ⟨rfl, H⟩ A F
 iterate 4 (refine Av F ?_; intro A F)
 refine Zb F (d_alloc H rfl [iU 0, iU 0, iU 0, iU 0] zero_79) fun g7 A w F H => ?_
 refine Zb F (d_alloc H rfl [iU 0, iU 0, iU 0, iU 0] zero_79) fun g8 A w F H => ?_
 refine Zs 1 L149 sz_79 F H fun A w F H => ?_
 refine Zs 0 L148 sz_79 F H fun A w F H => ?_
 refine Av F fun A F => ?_
 refine Nl kk (Sx.seq fun K8 hK8 => Sp fun _ kk => ?_)
 iterate 2 (refine Av F ?_; intro A F)
 refine Nl kk (condF F rfl (wp_skip (hK8 _ _ (Sx.seq fun K10 hK10 => ?_))))
 have F := F.tq [(0, pT g1 0), (4, iI 0), (5, iI 0), (6, pT g4 0), (8, pT g7 0), (9, pT g8 0)] rfl
 refine Dn F [some (pT g1 0), some (pT g1 0), some (pT g1 1), some (iI 1), some (pT g1 0), some (pT g1 0), some (pT g1 2), some (iU 0), some (L147), none, none, none, some (iI 0), none, some (iI 0)] (fun L A w => ∃ g9 : Nat, ∃ g10 : Nat, (L 9 = true → A.eval (.tmp 56) = .tuple #[pT g9 0, iI 0]) ∧ (L 10 = true → A.eval (.tmp 46) = .tuple #[pT g9 0, iI 0]) ∧ (L 11 = true → A.eval (.tmp 57) = pT g9 0) ∧ (L 13 = true → A.eval (.tmp 10) = pT g9 0) ∧ Sx.Own w0 w ((L 9, g9, (L140 g10)) :: (L 9, g10, L151) :: (true, g8, L148) :: (true, g7, L149) :: (true, g4, (L140 g5)) :: (true, g5, L139) :: (true, g2, [sL g3 0 1 c1, iI 1]) :: (true, g1, [pT g2 0, iI 1, iU 0]) :: bs) (⟨true, sL g3 0 1 c1, 217, 2, 1, [iI 0, pT g4 0]⟩ :: ⟨true, sL g6 0 1 c2, 3, 1, 1, [iI 0]⟩ :: rs) K) ⟨0, 0, (fun h => by cases h), (fun h => by cases h), (fun h => by cases h), (fun h => by cases h), H.drew.padG L154 [] rfl rfl⟩ ?_ ?_
 ·refine ⟨?_, ?_, ?_, ?_, ?_, ?_, ?_, ?_, ?_, ?_, ?_, ?_, ?_, ?_, ?_, trivial⟩
  ·intro L A w up hun hd F ⟨g9, g10, p9, p10, p11, p13, H⟩
   have f1 : L 1 = false := up 1 0 rfl hun
   have f2 : L 2 = false := up 2 1 rfl f1
   have f3 : L 3 = false := up 3 2 rfl f2
   have f9 : L 9 = false := up 9 3 rfl f3
   have f10 : L 10 = false := up 10 9 rfl f9
   have f11 : L 11 = false := up 11 10 rfl f10
   have f13 : L 13 = false := up 13 0 rfl hun
   have G := H; rw [f9] at G
   refine step_on rfl (d_move F (Or.inl rfl) rfl) ?_
   rintro xv w' ⟨hx, rfl⟩
   exact ⟨Cs hx, ⟨g9, g10, Nf f9, Nf f10, Nf f11, Nf f13, H⟩⟩
  ·intro L A w up hun hd F ⟨g9, g10, p9, p10, p11, p13, H⟩
   have f2 : L 2 = false := up 2 1 rfl hun
   have f3 : L 3 = false := up 3 2 rfl f2
   have f9 : L 9 = false := up 9 3 rfl f3
   have f10 : L 10 = false := up 10 9 rfl f9
   have f11 : L 11 = false := up 11 10 rfl f10
   have f13 : L 13 = false := up 13 1 rfl hun
   have G := H; rw [f9] at G
   refine step_on rfl (d_nil F rfl rfl) ?_
   rintro xv w' ⟨hx, rfl⟩
   exact ⟨Cs hx, ⟨g9, g10, Nf f9, Nf f10, Nf f11, Nf f13, H⟩⟩
  ·intro L A w up hun hd F ⟨g9, g10, p9, p10, p11, p13, H⟩
   have f3 : L 3 = false := up 3 2 rfl hun
   have f9 : L 9 = false := up 9 3 rfl f3
   have f10 : L 10 = false := up 10 9 rfl f9
   have f11 : L 11 = false := up 11 10 rfl f10
   have f13 : L 13 = false := up 13 2 rfl hun
   have G := H; rw [f9] at G
   refine step_on rfl (Fd F (fa_160_1.default.h _ _ _)) ?_
   rintro xv w' ⟨hx, rfl⟩
   exact ⟨Cs hx, ⟨g9, g10, Nf f9, Nf f10, Nf f11, Nf f13, H⟩⟩
  ·intro L A w up hun hd F ⟨g9, g10, p9, p10, p11, p13, H⟩
   have f9 : L 9 = false := up 9 3 rfl hun
   have f10 : L 10 = false := up 10 9 rfl f9
   have f11 : L 11 = false := up 11 10 rfl f10
   have f13 : L 13 = false := up 13 3 rfl hun
   have G := H; rw [f9] at G
   refine step_on rfl (Ld 7 one_3 F G) ?_
   rintro xv w' ⟨hx, rfl⟩
   exact ⟨Cs hx, ⟨g9, g10, Nf f9, Nf f10, Nf f11, Nf f13, H⟩⟩
  ·intro L A w up hun hd F ⟨g9, g10, p9, p10, p11, p13, H⟩
   have f5 : L 5 = false := up 5 4 rfl hun
   have f6 : L 6 = false := up 6 5 rfl f5
   have f7 : L 7 = false := up 7 6 rfl f6
   have f9 : L 9 = false := up 9 7 rfl f7
   have f10 : L 10 = false := up 10 9 rfl f9
   have f11 : L 11 = false := up 11 10 rfl f10
   have f13 : L 13 = false := up 13 4 rfl hun
   have G := H; rw [f9] at G
   refine step_on rfl (d_move F (Or.inl rfl) rfl) ?_
   rintro xv w' ⟨hx, rfl⟩
   exact ⟨Cs hx, ⟨g9, g10, Nf f9, Nf f10, Nf f11, Nf f13, H⟩⟩
  ·intro L A w up hun hd F ⟨g9, g10, p9, p10, p11, p13, H⟩
   have f6 : L 6 = false := up 6 5 rfl hun
   have f7 : L 7 = false := up 7 6 rfl f6
   have f9 : L 9 = false := up 9 7 rfl f7
   have f10 : L 10 = false := up 10 9 rfl f9
   have f11 : L 11 = false := up 11 10 rfl f10
   have f13 : L 13 = false := up 13 5 rfl hun
   have G := H; rw [f9] at G
   refine step_on rfl (d_nil F rfl rfl) ?_
   rintro xv w' ⟨hx, rfl⟩
   exact ⟨Cs hx, ⟨g9, g10, Nf f9, Nf f10, Nf f11, Nf f13, H⟩⟩
  ·intro L A w up hun hd F ⟨g9, g10, p9, p10, p11, p13, H⟩
   have f7 : L 7 = false := up 7 6 rfl hun
   have f9 : L 9 = false := up 9 7 rfl f7
   have f10 : L 10 = false := up 10 9 rfl f9
   have f11 : L 11 = false := up 11 10 rfl f10
   have f13 : L 13 = false := up 13 6 rfl hun
   have G := H; rw [f9] at G
   refine step_on rfl (Fd F (fa_160_2.default.h _ _ _)) ?_
   rintro xv w' ⟨hx, rfl⟩
   exact ⟨Cs hx, ⟨g9, g10, Nf f9, Nf f10, Nf f11, Nf f13, H⟩⟩
  ·intro L A w up hun hd F ⟨g9, g10, p9, p10, p11, p13, H⟩
   have f9 : L 9 = false := up 9 7 rfl hun
   have f10 : L 10 = false := up 10 9 rfl f9
   have f11 : L 11 = false := up 11 10 rfl f10
   have f13 : L 13 = false := up 13 7 rfl hun
   have G := H; rw [f9] at G
   refine step_on rfl (Ld 7 one_22 F G) ?_
   rintro xv w' ⟨hx, rfl⟩
   exact ⟨Cs hx, ⟨g9, g10, Nf f9, Nf f10, Nf f11, Nf f13, H⟩⟩
  ·intro L A w up hun hd F ⟨g9, g10, p9, p10, p11, p13, H⟩
   have f9 : L 9 = false := up 9 8 rfl hun
   have f10 : L 10 = false := up 10 9 rfl f9
   have f11 : L 11 = false := up 11 10 rfl f10
   have f13 : L 13 = false := up 13 8 rfl hun
   have G := H; rw [f9] at G
   refine step_on rfl (Lr 2 L148 rw_79 F G) ?_
   rintro xv w' ⟨hx, rfl⟩
   exact ⟨Cs hx, ⟨g9, g10, Nf f9, Nf f10, Nf f11, Nf f13, H⟩⟩
  ·intro L A w up hun hd F ⟨g9, g10, p9, p10, p11, p13, H⟩
   have f9 : L 9 = false := hun
   have f10 : L 10 = false := up 10 9 rfl hun
   have f11 : L 11 = false := up 11 10 rfl f10
   have f13 : L 13 = false := up 13 9 rfl hun
   rw [f9] at H
   have H : Sx.Own w0 w ((false, g9, (L140 g10)) :: (false, g10, L151) :: (true, g8, L148) :: (true, g7, L149) :: (true, g4, (L140 g5)) :: (true, g5, L139) :: (true, g2, [sL g3 0 1 c1, iI 1]) :: (true, g1, [pT g2 0, iI 1, iU 0]) :: bs) (⟨true, sL g3 0 1 c1, 217, 2, 1, [iI 0, pT g4 0]⟩ :: ⟨true, sL g6 0 1 c2, 3, 1, 1, [iI 0]⟩ :: rs) K := H
   refine step_on rfl (Do if_98 F (cx83 H)) ?_
   rintro xv w' ⟨g11, g12, hx, H⟩
   have H := H.pickN 10 2 [0, 1, 4, 5, 6, 7, 8, 9] [0, 1]
   exact ⟨Cn, ⟨g11, g12, (fun _ => (Sx.put_same F (by decide) _).trans hx), Nf f10, Nf f11, Nf f13, H⟩⟩
  ·intro L A w up hun hd F ⟨g9, g10, p9, p10, p11, p13, H⟩
   have t9 : L 9 = true := hd 9 rfl
   have f10 : L 10 = false := hun
   have f11 : L 11 = false := up 11 10 rfl hun
   have f13 : L 13 = false := up 13 10 rfl hun
   have G := H; rw [t9] at G
   have F := Fr.add F (p9 t9)
   refine step_on rfl (d_move F (Or.inl rfl) rfl) ?_
   rintro xv w' ⟨hx, rfl⟩
   exact ⟨Cn, ⟨g9, g10, Pk p9, (fun _ => (Sx.put_same F (by decide) _).trans hx), Nf f11, Nf f13, H⟩⟩
  ·intro L A w up hun hd F ⟨g9, g10, p9, p10, p11, p13, H⟩
   have t9 : L 9 = true := by
    cases hb : L 9 with
    | true => rfl
    | false =>
     have hb10 := up 10 9 rfl hb
     rw [hd 10 rfl] at hb10; cases hb10
   have t10 : L 10 = true := hd 10 rfl
   have f11 : L 11 = false := hun
   have f13 : L 13 = false := up 13 11 rfl hun
   have G := H; rw [t9] at G
   have F := Fr.add F (p9 t9)
   have F := Fr.add F (p10 t10)
   refine step_on rfl (d_extract (v := pT g9 0) F rfl rfl rfl) ?_
   rintro xv w' ⟨hx, rfl⟩
   exact ⟨Cn, ⟨g9, g10, Pk p9, Pk p10, (fun _ => (Sx.put_same F (by decide) _).trans hx), Nf f13, H⟩⟩
  ·intro L A w up hun hd F ⟨g9, g10, p9, p10, p11, p13, H⟩
   have t9 : L 9 = true := by
    cases hb : L 9 with
    | true => rfl
    | false =>
     have hb10 := up 10 9 rfl hb
     rw [hd 10 rfl] at hb10; cases hb10
   have t10 : L 10 = true := hd 10 rfl
   have G := H; rw [t9] at G
   have F := Fr.add F (p9 t9)
   have F := Fr.add F (p10 t10)
   refine step_on rfl (d_extract (v := iI 0) F rfl rfl rfl) ?_
   rintro xv w' ⟨hx, rfl⟩
   exact ⟨Cs hx, ⟨g9, g10, Pk p9, Pk p10, Pk p11, Pk p13, H⟩⟩
  ·intro L A w up hun hd F ⟨g9, g10, p9, p10, p11, p13, H⟩
   have t9 : L 9 = true := hd 9 rfl
   have t10 : L 10 = true := hd 10 rfl
   have t11 : L 11 = true := hd 11 rfl
   have f13 : L 13 = false := hun
   have G := H; rw [t9] at G
   have F := Fr.add F (p9 t9)
   have F := Fr.add F (p10 t10)
   have F := Fr.add F (p11 t11)
   refine step_on rfl (d_move F (Or.inr rfl) rfl) ?_
   rintro xv w' ⟨hx, rfl⟩
   exact ⟨Cn, ⟨g9, g10, Pk p9, Pk p10, Pk p11, (fun _ => (Sx.put_same F (by decide) _).trans hx), H⟩⟩
  ·intro L A w up hun hd F ⟨g9, g10, p9, p10, p11, p13, H⟩
   have t9 : L 9 = true := hd 9 rfl
   have t10 : L 10 = true := hd 10 rfl
   have t11 : L 11 = true := hd 11 rfl
   have t13 : L 13 = true := hd 13 rfl
   have G := H; rw [t9] at G
   have F := Fr.add F (p9 t9)
   have F := Fr.add F (p10 t10)
   have F := Fr.add F (p11 t11)
   have F := Fr.add F (p13 t13)
   refine step_on rfl (d_move F (Or.inr rfl) rfl) ?_
   rintro xv w' ⟨hx, rfl⟩
   exact ⟨Cs hx, ⟨g9, g10, Pk p9, Pk p10, Pk p11, Pk p13, H⟩⟩
 ·intro L A w hL F ⟨g9, g10, p9, p10, p11, p13, H⟩
  have t9 : L 9 = true := hL 9 rfl
  have t10 : L 10 = true := hL 10 rfl
  have t11 : L 11 = true := hL 11 rfl
  have t13 : L 13 = true := hL 13 rfl
  rw [t9] at H
  have F := Fr.add F (p9 t9)
  have F := Fr.add F (p10 t10)
  have F := Fr.add F (p11 t11)
  have F := Fr.add F (p13 t13)
  have H := H.pickN 8 2 [0, 1, 2, 3, 4, 5, 6, 7] [0, 1]
  have F := F.tq [(0, pT g1 0), (4, iI 0), (5, iI 0), (6, pT g4 0), (8, pT g7 0), (10, pT g9 0), (7, iI 0)] rfl
  refine hK10 _ _ (Sx.seq fun K11 hK11 => Sp fun _ kk => ?_)
  iterate 2 (refine Av F ?_; intro A F)
  refine Nl kk (condF F rfl (wp_skip (hK11 _ _ (Sp fun _ kk => ?_))))
  iterate 3 (refine Av F ?_; intro A F)
  have H := H.pickN 8 2 [4, 5, 0, 1, 2, 3, 6, 7] [0, 1]
  refine Zx F (Do if_99 F (cx84 H)) ?_
  rintro _ w ⟨rfl, H⟩ A F
  refine Nl kk (Sp fun _ kk => ?_)
  iterate 3 (refine Av F ?_; intro A F)
  refine Zv F (Ld 7 one_158 F H) fun A F => ?_
  refine Av F fun A F => ?_
  have H := H.pickN 8 2 [6, 2, 3, 0, 1, 4, 5, 7] [0, 1]
  refine Zx F (Do if_100 F (cx86 (by omega) H)) ?_
  rintro _ w ⟨g13, c3, hbc3, rfl, H⟩ A F
  iterate 4 (refine Av F ?_; intro A F)
  refine Nl kk (Wr (ret2 F Tryz.results72 (res_tmp F rfl) (res_tmp F rfl) ?_))
  exact ⟨_, rfl, g13, c3, g9, g10, (by omega), rfl, H.pickN 8 2 [7, 0, 3, 4, 1, 2] [0]⟩
set_option maxRecDepth 100000 in
theorem cx88 {g1 g2 g3 g4 c1 g5 g6 : Nat} (hbc1 : 1 ≤ c1) (H : Sx.Own w0 w ((true, g1, [pT g2 0]) :: (true, g2, [pT g3 0, iI 1, iU 0]) :: (true, g3, [sL g4 0 1 c1, iI 1]) :: (true, g5, (L140 g6)) :: (true, g6, L139) :: bs) (⟨true, sL g4 0 1 c1, 217, 2, 1, [iI 0, pT g5 0]⟩ :: rs) K) : Cq 44 #[pT g1 0, L115] w fun x w' => ∃ g9 c2 g10 g11 : Nat, 2 ≤ c2 ∧ x = .agg #[iI 1, iU 0, nS, nS, iI 0] ∧ Sx.Own w0 w' ((true, g1, [pT g2 0]) :: (true, g2, [pT g3 0, iI 1, iU 0]) :: (true, g3, [sL g9 0 2 c2, iI 2]) :: (true, g5, (L153 g6)) :: (true, g6, L139) :: (true, g10, (L140 g11)) :: (true, g11, L151) :: bs) (⟨true, sL g9 0 2 c2, 217, 2, 2, [iI 0, pT g5 0, iI 1, pT g10 0]⟩ :: rs) K := by
 refine En Tryz.func44 Tryz.ntmps44 fun A F => ?_
 refine Sp fun _ kk => Zb F (d_box F H rfl rfl L116 rfl) fun g7 A w F H => ?_
 refine Zb F (d_alloc H rfl [iI 0, iU 0, nS, nS, iI 0] zero_68) fun g8 A w F H => ?_
 refine Nl kk (Sx.seq fun K2 hK2 => ?_)
 have F := F.tq [(0, pT g1 0), (3, pT g7 0), (4, pT g8 0)] rfl
 refine Dn F [some (pT g1 0), some (pT g1 0), some (pT g1 0), some (pT g2 0), some (pT g7 1), some (iI 0), some (.tuple #[iI 1, iI 0]), some (.tuple #[iI 1, iI 0]), some (iI 1), some (iI 0), some (iI 1), some (iI 0)] (fun L A w => ∃ g9 : Nat, ∃ c2 : Nat, ∃ g10 : Nat, ∃ g11 : Nat, (L 6 = true → 2 ≤ c2) ∧ Sx.Own w0 w ((L 6, g10, (L140 g11)) :: (L 6, g11, L151) :: (true, g8, [iI 0, iU 0, nS, nS, iI 0]) :: (true, g7, L116) :: (true, g1, [pT g2 0]) :: (true, g2, [pT g3 0, iI 1, iU 0]) :: (true, g3, (cond (L 6) [sL g9 0 2 c2, iI 2] [sL g4 0 1 c1, iI 1])) :: (true, g5, (cond (L 6) (L153 g6) (L140 g6))) :: (true, g6, L139) :: bs) (⟨L 6, sL g9 0 2 c2, 217, 2, 2, [iI 0, pT g5 0, iI 1, pT g10 0]⟩ :: ⟨cond (L 6) false (true), sL g4 0 1 c1, 217, 2, 1, [iI 0, pT g5 0]⟩ :: rs) K) ⟨0, 0, 0, 0, (fun h => by cases h), H.drew.padG L154 [⟨false, sL 0 0 2 0, 217, 2, 2, [iI 0, pT g5 0, iI 1, pT 0 0]⟩] rfl rfl⟩ ?_ ?_
 ·refine ⟨?_, ?_, ?_, ?_, ?_, ?_, ?_, ?_, ?_, ?_, ?_, ?_, trivial⟩
  ·intro L A w up hun hd F ⟨g9, c2, g10, g11, qc2, H⟩
   have f1 : L 1 = false := up 1 0 rfl hun
   have f2 : L 2 = false := up 2 1 rfl f1
   have f3 : L 3 = false := up 3 2 rfl f2
   have f6 : L 6 = false := up 6 3 rfl f3
   have G := H; rw [f6] at G
   refine step_on rfl (d_move F (Or.inl rfl) rfl) ?_
   rintro xv w' ⟨hx, rfl⟩
   exact ⟨Cs hx, ⟨g9, c2, g10, g11, Nf f6, H⟩⟩
  ·intro L A w up hun hd F ⟨g9, c2, g10, g11, qc2, H⟩
   have f2 : L 2 = false := up 2 1 rfl hun
   have f3 : L 3 = false := up 3 2 rfl f2
   have f6 : L 6 = false := up 6 3 rfl f3
   have G := H; rw [f6] at G
   refine step_on rfl (d_nil F rfl rfl) ?_
   rintro xv w' ⟨hx, rfl⟩
   exact ⟨Cs hx, ⟨g9, c2, g10, g11, Nf f6, H⟩⟩
  ·intro L A w up hun hd F ⟨g9, c2, g10, g11, qc2, H⟩
   have f3 : L 3 = false := up 3 2 rfl hun
   have f6 : L 6 = false := up 6 3 rfl f3
   have G := H; rw [f6] at G
   refine step_on rfl (Fd F (fa_116_0.default.h _ _ _)) ?_
   rintro xv w' ⟨hx, rfl⟩
   exact ⟨Cs hx, ⟨g9, c2, g10, g11, Nf f6, H⟩⟩
  ·intro L A w up hun hd F ⟨g9, c2, g10, g11, qc2, H⟩
   have f6 : L 6 = false := up 6 3 rfl hun
   have G := H; rw [f6] at G
   refine step_on rfl (Ld 4 one_114 F G) ?_
   rintro xv w' ⟨hx, rfl⟩
   exact ⟨Cs hx, ⟨g9, c2, g10, g11, Nf f6, H⟩⟩
  ·intro L A w up hun hd F ⟨g9, c2, g10, g11, qc2, H⟩
   have f5 : L 5 = false := up 5 4 rfl hun
   have f6 : L 6 = false := up 6 5 rfl f5
   have G := H; rw [f6] at G
   refine step_on rfl (Fd F (fa_71_1.default.h _ _ _)) ?_
   rintro xv w' ⟨hx, rfl⟩
   exact ⟨Cs hx, ⟨g9, c2, g10, g11, Nf f6, H⟩⟩
  ·intro L A w up hun hd F ⟨g9, c2, g10, g11, qc2, H⟩
   have f6 : L 6 = false := up 6 5 rfl hun
   have G := H; rw [f6] at G
   refine step_on rfl (Ld 3 one_3 F G) ?_
   rintro xv w' ⟨hx, rfl⟩
   exact ⟨Cs hx, ⟨g9, c2, g10, g11, Nf f6, H⟩⟩
  ·intro L A w up hun hd F ⟨g9, c2, g10, g11, qc2, H⟩
   have f6 : L 6 = false := hun
   rw [f6] at H
   have H : Sx.Own w0 w ((false, g10, (L140 g11)) :: (false, g11, L151) :: (true, g8, [iI 0, iU 0, nS, nS, iI 0]) :: (true, g7, L116) :: (true, g1, [pT g2 0]) :: (true, g2, [pT g3 0, iI 1, iU 0]) :: (true, g3, [sL g4 0 1 c1, iI 1]) :: (true, g5, (L140 g6)) :: (true, g6, L139) :: bs) (⟨false, sL g9 0 2 c2, 217, 2, 2, [iI 0, pT g5 0, iI 1, pT g10 0]⟩ :: ⟨true, sL g4 0 1 c1, 217, 2, 1, [iI 0, pT g5 0]⟩ :: rs) K := H
   have H := H.pickN 9 2 [5, 6, 7, 8, 0, 1, 2, 3, 4] [1]
   refine step_on rfl (Do if_72 F (cx87 (by omega) H)) ?_
   rintro xv w' ⟨g12, c3, g13, g14, hbc3, hx, H⟩
   have H := H.padG [] [⟨false, sL g4 0 1 c1, 217, 2, 1, [iI 0, pT g5 0]⟩] rfl rfl
   have H := H.pickN 11 2 [4, 5, 8, 9, 10, 0, 1, 2, 3] [1, 0]
   exact ⟨Cs hx, ⟨g12, c3, g13, g14, (fun _ => by omega), H⟩⟩
  ·intro L A w up hun hd F ⟨g9, c2, g10, g11, qc2, H⟩
   have t6 : L 6 = true := hd 6 rfl
   have G := H; rw [t6] at G
   have hbc2 := qc2 t6
   refine step_on rfl (d_move F (Or.inl rfl) rfl) ?_
   rintro xv w' ⟨hx, rfl⟩
   exact ⟨Cs hx, ⟨g9, c2, g10, g11, qc2, H⟩⟩
  ·intro L A w up hun hd F ⟨g9, c2, g10, g11, qc2, H⟩
   have t6 : L 6 = true := by
    cases hb : L 6 with
    | true => rfl
    | false =>
     have hb7 := up 7 6 rfl hb
     rw [hd 7 rfl] at hb7; cases hb7
   have G := H; rw [t6] at G
   have hbc2 := qc2 t6
   refine step_on rfl (d_extract (v := iI 1) F rfl rfl rfl) ?_
   rintro xv w' ⟨hx, rfl⟩
   exact ⟨Cs hx, ⟨g9, c2, g10, g11, qc2, H⟩⟩
  ·intro L A w up hun hd F ⟨g9, c2, g10, g11, qc2, H⟩
   have t6 : L 6 = true := by
    cases hb : L 6 with
    | true => rfl
    | false =>
     have hb7 := up 7 6 rfl hb
     rw [hd 7 rfl] at hb7; cases hb7
   have G := H; rw [t6] at G
   have hbc2 := qc2 t6
   refine step_on rfl (d_extract (v := iI 0) F rfl rfl rfl) ?_
   rintro xv w' ⟨hx, rfl⟩
   exact ⟨Cs hx, ⟨g9, c2, g10, g11, qc2, H⟩⟩
  ·intro L A w up hun hd F ⟨g9, c2, g10, g11, qc2, H⟩
   have t6 : L 6 = true := hd 6 rfl
   have G := H; rw [t6] at G
   have hbc2 := qc2 t6
   refine step_on rfl (d_move F (Or.inr rfl) rfl) ?_
   rintro xv w' ⟨hx, rfl⟩
   exact ⟨Cs hx, ⟨g9, c2, g10, g11, qc2, H⟩⟩
  ·intro L A w up hun hd F ⟨g9, c2, g10, g11, qc2, H⟩
   have t6 : L 6 = true := hd 6 rfl
   have G := H; rw [t6] at G
   have hbc2 := qc2 t6
   refine step_on rfl (d_move F (Or.inr rfl) rfl) ?_
   rintro xv w' ⟨hx, rfl⟩
   exact ⟨Cs hx, ⟨g9, c2, g10, g11, qc2, H⟩⟩
 ·intro L A w hL F ⟨g9, c2, g10, g11, qc2, H⟩
  have t6 : L 6 = true := hL 6 rfl
  rw [t6] at H
  have hbc2 := qc2 t6
  have H := H.pickN 9 2 [0, 1, 2, 3, 4, 5, 6, 7, 8] [0]
  have F := F.tq [(4, pT g8 0), (5, iI 1), (6, iI 0)] rfl
  refine hK2 _ _ (Sp fun _ kk => ?_)
  iterate 2 (refine Av F ?_; intro A F)
  refine Zv F (d_build (qs := #[(0, iI 1), (4, iI 0)]) (v := .agg #[iI 1, iU 0, nS, nS, iI 0]) F rfl rfl (by kernel_rfl)) fun A F => ?_
  refine Zs 2 [iI 1, iU 0, nS, nS, iI 0] sz_68 F H fun A w F H => ?_
  refine Nl kk (Wr (ret1 F Tryz.results44 (res_row (i := 2) (xs := [iI 1, iU 0, nS, nS, iI 0]) rw_68 F H rfl rfl rfl rfl) ?_))
  exact ⟨_, rfl, g9, c2, g10, g11, (by omega), rfl, H.pickN 9 1 [4, 5, 6, 7, 8, 0, 1] [0]⟩
set_option maxRecDepth 100000 in
theorem cx89 {g1 g2 g3 g4 c1 g5 g6 : Nat} (hbc1 : 1 ≤ c1) (H : Sx.Own w0 w ((true, g1, [pT g2 0]) :: (true, g2, [pT g3 0, iI 1, iU 0]) :: (true, g3, [sL g4 0 1 c1, iI 1]) :: (true, g5, (L140 g6)) :: (true, g6, L139) :: bs) (⟨true, sL g4 0 1 c1, 217, 2, 1, [iI 0, pT g5 0]⟩ :: rs) K) : Cq 19 #[pT g1 0, L115] w fun x w' => ∃ g9 c2 g10 g11 : Nat, 2 ≤ c2 ∧ x = .agg #[iI 1, iU 0, nS, nS, iI 0] ∧ Sx.Own w0 w' ((true, g1, [pT g2 0]) :: (true, g2, [pT g3 0, iI 1, iU 0]) :: (true, g3, [sL g9 0 2 c2, iI 2]) :: (true, g5, (L153 g6)) :: (true, g6, L139) :: (true, g10, (L140 g11)) :: (true, g11, L151) :: bs) (⟨true, sL g9 0 2 c2, 217, 2, 2, [iI 0, pT g5 0, iI 1, pT g10 0]⟩ :: rs) K := by
 refine En Tryz.func19 Tryz.ntmps19 fun A F => ?_
 refine Sp fun _ kk => Zb F (d_box F H rfl rfl L116 rfl) fun g7 A w F H => ?_
 refine Zb F (d_alloc H rfl [iI 0, iU 0, nS, nS, iI 0] zero_68) fun g8 A w F H => ?_
 refine Nl kk (Sp fun _ kk => Zx F (d_makeMap F H rfl) ?_)
 rintro _ w ⟨mr, rfl, hmK, H⟩ A F
 have hmo : Tb.MapIs (.map #[] 0) [] := ⟨_, _, rfl, rfl⟩
 refine Zy F (d_mapIns (kt := 3) (et := 117) (by kernel_rfl) (by kernel_rfl) F H rfl rfl rfl rfl (if_pos rfl) hmo rfl) ?_
 rintro _ w ⟨mo1, hmo, H⟩ A F
 rw [Sx.upd_upd] at H
 have hmo : Tb.MapIs mo1 [(0, .func (.func 43) #[] #[])] := hmo
 refine Zy F (d_mapIns (kt := 3) (et := 117) (by kernel_rfl) (by kernel_rfl) F H rfl rfl rfl rfl (if_pos rfl) hmo rfl) ?_
 rintro _ w ⟨mo2, hmo, H⟩ A F
 rw [Sx.upd_upd] at H
 have hmo : Tb.MapIs mo2 [(0, .func (.func 43) #[] #[]), (1, .func (.func 44) #[] #[])] := hmo
 refine Zy F (d_mapIns (kt := 3) (et := 117) (by kernel_rfl) (by kernel_rfl) F H rfl rfl rfl rfl (if_pos rfl) hmo rfl) ?_
 rintro _ w ⟨mo3, hmo, H⟩ A F
 rw [Sx.upd_upd] at H
 have hmo : Tb.MapIs mo3 [(0, .func (.func 43) #[] #[]), (1, .func (.func 44) #[] #[]), (2, .func (.func 45) #[] #[])] := hmo
 refine Zy F (d_mapIns (kt := 3) (et := 117) (by kernel_rfl) (by kernel_rfl) F H rfl rfl rfl rfl (if_pos rfl) hmo rfl) ?_
 rintro _ w ⟨mo4, hmo, H⟩ A F
 rw [Sx.upd_upd] at H
 have hmo : Tb.MapIs mo4 [(0, .func (.func 43) #[] #[]), (1, .func (.func 44) #[] #[]), (2, .func (.func 45) #[] #[]), (3, .func (.func 46) #[] #[])] := hmo
 refine Zy F (d_mapIns (kt := 3) (et := 117) (by kernel_rfl) (by kernel_rfl) F H rfl rfl rfl rfl (if_pos rfl) hmo rfl) ?_
 rintro _ w ⟨mo5, hmo, H⟩ A F
 rw [Sx.upd_upd] at H
 have hmo : Tb.MapIs mo5 [(0, .func (.func 43) #[] #[]), (1, .func (.func 44) #[] #[]), (2, .func (.func 45) #[] #[]), (3, .func (.func 46) #[] #[]), (4, .func (.func 47) #[] #[])] := hmo
 refine Zy F (d_mapIns (kt := 3) (et := 117) (by kernel_rfl) (by kernel_rfl) F H rfl rfl rfl rfl (if_pos rfl) hmo rfl) ?_
 rintro _ w ⟨mo6, hmo, H⟩ A F
 rw [Sx.upd_upd] at H
 have hmo : Tb.MapIs mo6 [(0, .func (.func 43) #[] #[]), (1, .func (.func 44) #[] #[]), (2, .func (.func 45) #[] #[]), (3, .func (.func 46) #[] #[]), (4, .func (.func 47) #[] #[]), (5, .func (.func 48) #[] #[])] := hmo
 refine Zy F (d_mapIns (kt := 3) (et := 117) (by kernel_rfl) (by kernel_rfl) F H rfl rfl rfl rfl (if_pos rfl) hmo rfl) ?_
 rintro _ w ⟨mo7, hmo, H⟩ A F
 rw [Sx.upd_upd] at H
 have hmo : Tb.MapIs mo7 [(0, .func (.func 43) #[] #[]), (1, .func (.func 44) #[] #[]), (2, .func (.func 45) #[] #[]), (3, .func (.func 46) #[] #[]), (4, .func (.func 47) #[] #[]), (5, .func (.func 48) #[] #[]), (6, .func (.func 49) #[] #[])] := hmo
 refine Zy F (d_mapIns (kt := 3) (et := 117) (by kernel_rfl) (by kernel_rfl) F H rfl rfl rfl rfl (if_pos rfl) hmo rfl) ?_
 rintro _ w ⟨mo8, hmo, H⟩ A F
 rw [Sx.upd_upd] at H
 have hmo : Tb.MapIs mo8 [(0, .func (.func 43) #[] #[]), (1, .func (.func 44) #[] #[]), (2, .func (.func 45) #[] #[]), (3, .func (.func 46) #[] #[]), (4, .func (.func 47) #[] #[]), (5, .func (.func 48) #[] #[]), (6, .func (.func 49) #[] #[]), (7, .func (.func 50) #[] #[])] := hmo
 refine Zy F (d_mapIns (kt := 3) (et := 117) (by kernel_rfl) (by kernel_rfl) F H rfl rfl rfl rfl (if_pos rfl) hmo rfl) ?_
 rintro _ w ⟨mo9, hmo, H⟩ A F
 rw [Sx.upd_upd] at H
 have hmo : Tb.MapIs mo9 [(0, .func (.func 43) #[] #[]), (1, .func (.func 44) #[] #[]), (2, .func (.func 45) #[] #[]), (3, .func (.func 46) #[] #[]), (4, .func (.func 47) #[] #[]), (5, .func (.func 48) #[] #[]), (6, .func (.func 49) #[] #[]), (7, .func (.func 50) #[] #[]), (8, .func (.func 51) #[] #[])] := hmo
 refine Zy F (d_mapIns (kt := 3) (et := 117) (by kernel_rfl) (by kernel_rfl) F H rfl rfl rfl rfl (if_pos rfl) hmo rfl) ?_
 rintro _ w ⟨mo10, hmo, H⟩ A F
 rw [Sx.upd_upd] at H
 have hmo : Tb.MapIs mo10 [(0, .func (.func 43) #[] #[]), (1, .func (.func 44) #[] #[]), (2, .func (.func 45) #[] #[]), (3, .func (.func 46) #[] #[]), (4, .func (.func 47) #[] #[]), (5, .func (.func 48) #[] #[]), (6, .func (.func 49) #[] #[]), (7, .func (.func 50) #[] #[]), (8, .func (.func 51) #[] #[]), (9, .func (.func 52) #[] #[])] := hmo
 iterate 2 (refine Av F ?_; intro A F)
 refine Nl kk (Sp fun _ kk => ?_)
 iterate 3 (refine Av F ?_; intro A F)
 refine Zv F (d_lookup (kt := 3) (et := 117) (z := .nilFunc) (v := .func (.func 44) #[] #[]) (b := true) (by kernel_rfl) (by kernel_rfl) (fun _ => by kernel_rfl) F H rfl rfl rfl (if_pos rfl) hmo rfl) fun A F => ?_
 have H := H.unkeep1 hmK
 iterate 5 (refine Av F ?_; intro A F)
 refine Nl kk (Sx.seq fun K4 hK4 => wp_block (Sp fun _ kk => Av F fun A F => ?_))
 refine Zv F (d_un (v := bF) F rfl rfl rfl) fun A F => ?_
 refine Av F fun A F => ?_
 refine Nl kk (condF F rfl (Sp fun _ kk => Av F fun A F => ?_))
 have H := H.pickN 7 1 [2, 3, 4, 5, 6, 0, 1] [0]
 refine Zx F (Do if_53 F (cx68 (by omega) H)) ?_
 rintro _ w ⟨rfl, H⟩ A F
 refine Av F fun A F => ?_
 refine su F (wanted_off rfl (guard_known (d := 24) (b := false) F rfl rfl) rfl) rfl (by decide) (fun A F => ?_)
 refine su F (wanted_off rfl (guard_known (d := 24) (b := false) F rfl rfl) rfl) rfl (by decide) (fun A F => ?_)
 refine su F (wanted_off rfl (guard_known (d := 24) (b := false) F rfl rfl) rfl) rfl (by decide) (fun A F => ?_)
 iterate 2 (refine Av F ?_; intro A F)
 refine su F (wanted_off rfl (guard_known (d := 29) (b := false) F rfl rfl) rfl) rfl (by decide) (fun A F => ?_)
 refine su F (wanted_off rfl (guard_known (d := 29) (b := false) F rfl rfl) rfl) rfl (by decide) (fun A F => ?_)
 refine su F (wanted_off rfl (guard_known (d := 29) (b := false) F rfl rfl) rfl) rfl (by decide) (fun A F => ?_)
 iterate 2 (refine Av F ?_; intro A F)
 refine Nl kk (condF F rfl (wp_skip (hK4 _ _ (Sp fun _ kk => ?_))))
 iterate 3 (refine Av F ?_; intro A F)
 refine Zx F (d_callCO (fv := []) (vs := [pT g1 0, L115]) (cv := []) if_44 F rfl rfl rfl (cx88 (by omega) H)) ?_
 rintro _ w ⟨g9, c2, g10, g11, hbc2, rfl, H⟩ A F
 refine Zs 7 [iI 1, iU 0, nS, nS, iI 0] sz_68 F H fun A w F H => ?_
 refine Nl kk (Wr (ret1 F Tryz.results19 (res_row (i := 7) (xs := [iI 1, iU 0, nS, nS, iI 0]) rw_68 F H rfl rfl rfl rfl) ?_))
 exact ⟨_, rfl, g9, c2, g10, g11, (by omega), rfl, H.pickN 9 1 [0, 1, 2, 3, 4, 5, 6] [0]⟩
set_option maxRecDepth 100000 in
theorem cx90 {g1 g2 g3 g4 c1 g5 g6 g7 g8 : Nat} (hbc1 : 2 ≤ c1) (H : Sx.Own w0 w ((true, g1, [pT g2 0]) :: (true, g2, [pT g3 0, iI 1, iU 0]) :: (true, g3, [sL g4 0 2 c1, iI 2]) :: (true, g5, (L153 g6)) :: (true, g7, (L140 g8)) :: (true, g6, L139) :: (true, g8, L151) :: bs) (⟨true, sL g4 0 2 c1, 217, 2, 2, [iI 0, pT g5 0, iI 1, pT g7 0]⟩ :: rs) K) : Cq 53 #[pT g1 0] w fun x w' => x = bF ∧ Sx.Own w0 w' ((true, g1, [pT g2 0]) :: (true, g2, [pT g3 0, iI 1, iU 0]) :: (true, g3, [sL g4 0 2 c1, iI 2]) :: (true, g5, (L153 g6)) :: (true, g7, (L140 g8)) :: (true, g6, L139) :: (true, g8, L151) :: bs) (⟨true, sL g4 0 2 c1, 217, 2, 2, [iI 0, pT g5 0, iI 1, pT g7 0]⟩ :: rs) K := by
 refine En Tryz.func53 Tryz.ntmps53 fun A F => ?_
 refine Sp fun _ kk => Av F fun A F => ?_
 refine Nl kk (Sp fun _ kk => ?_)
 iterate 4 (refine Av F ?_; intro A F)
 refine Zn bF F fun A F => ?_
 refine Av F fun A F => ?_
 refine Nl kk (Wr (ret1 F Tryz.results53 (res_tmp F rfl) ?_))
 exact ⟨_, rfl, rfl, H.pickN 7 1 [0, 1, 2, 3, 4, 5, 6] [0]⟩
set_option maxRecDepth 100000 in
theorem cx91 {g1 g2 : Nat}  (H : Sx.Own w0 w ((true, g1, (L140 g2)) :: (true, g2, L151) :: bs) (rs) K) : Cq 152 #[.agg #[iI 1, pT g1 0], iI 0] w fun x w' => x = iI 1 ∧ Sx.Own w0 w' ((true, g1, (L140 g2)) :: (true, g2, L151) :: bs) (rs) K := by
 refine En Tryz.func152 Tryz.ntmps152 fun A F => ?_
 refine Sp fun _ kk => Zb F (d_box F H rfl rfl [iI 1, pT g1 0] rfl) fun g3 A w F H => ?_
 refine Av F fun A F => ?_
 refine Nl kk (Sp fun _ kk => ?_)
 iterate 3 (refine Av F ?_; intro A F)
 refine Zv F (d_max (r := 0) F rfl rfl rfl (by decide)) fun A F => ?_
 refine Zv F (d_min (r := 0) F rfl rfl rfl (by decide)) fun A F => ?_
 refine Zn (iI 1) F fun A F => ?_
 refine Av F fun A F => ?_
 refine Nl kk (Wr (ret1 F Tryz.results152 (res_tmp F rfl) ?_))
 exact ⟨_, rfl, rfl, H.pickN 3 0 [1, 2] []⟩
set_option maxRecDepth 100000 in
theorem cx92 {g1 g2 : Nat}  (H : Sx.Own w0 w ((true, g1, (L153 g2)) :: (true, g2, L139) :: bs) (rs) K) : Cq 152 #[.agg #[iI 0, pT g1 0], iI 0] w fun x w' => x = iI 0 ∧ Sx.Own w0 w' ((true, g1, (L153 g2)) :: (true, g2, L139) :: bs) (rs) K := by
 refine En Tryz.func152 Tryz.ntmps152 fun A F => ?_
 refine Sp fun _ kk => Zb F (d_box F H rfl rfl [iI 0, pT g1 0] rfl) fun g3 A w F H => ?_
 refine Av F fun A F => ?_
 refine Nl kk (Sp fun _ kk => ?_)
 iterate 3 (refine Av F ?_; intro A F)
 refine Zv F (d_max (r := 0) F rfl rfl rfl (by decide)) fun A F => ?_
 refine Zv F (d_min (r := 0) F rfl rfl rfl (by decide)) fun A F => ?_
 refine Zn (iI 0) F fun A F => ?_
 refine Av F fun A F => ?_
 refine Nl kk (Wr (ret1 F Tryz.results152 (res_tmp F rfl) ?_))
 exact ⟨_, rfl, rfl, H.pickN 3 0 [1, 2] []⟩
set_option maxRecDepth 100000 in
theorem cx93 {g1 c1 g2 g3 g4 g5 : Nat} (hbc1 : 2 ≤ c1) (H : Sx.Own w0 w ((true, g2, (L153 g3)) :: (true, g4, (L140 g5)) :: (true, g3, L139) :: (true, g5, L151) :: bs) (⟨true, sL g1 0 2 c1, 217, 2, 2, [iI 0, pT g2 0, iI 1, pT g4 0]⟩ :: rs) K) : Cq 151 #[sL g1 0 2 c1, iI 0, .func (.func 152) #[] #[]] w fun x w' => x = .tuple #[iI 0, bT] ∧ Sx.Own w0 w' ((true, g2, (L153 g3)) :: (true, g4, (L140 g5)) :: (true, g3, L139) :: (true, g5, L151) :: bs) (⟨true, sL g1 0 2 c1, 217, 2, 2, [iI 0, pT g2 0, iI 1, pT g4 0]⟩ :: rs) K := by
 refine En Tryz.func151 Tryz.ntmps151 fun A F => ?_
 refine Sp fun _ kk => ?_
 iterate 2 (refine Av F ?_; intro A F)
 refine Nl kk (Sp fun _ kk => Av F fun A F => ?_)
 refine Zv F (d_lenS el_213 F rfl rfl) fun A F => ?_
 refine Av F fun A F => ?_
 refine Nl kk (Sp fun _ kk => ?_)
 iterate 3 (refine Av F ?_; intro A F)
 refine Nl kk (Sx.seq fun K4 hK4 => wp_block (wp_loop_rounds 40 ?_))
 try dsimp only [Exit.then, Exit.inBlock, Exit.jump, Exit.noGoto]
 rw [rounds_succ]
 refine Sx.seq fun K5 hK5 => Sp fun _ kk => ?_
 iterate 3 (refine Av F ?_; intro A F)
 refine Nl kk (condT F rfl (wp_skip (hK5 _ _ (wp_block (Sp fun _ kk => ?_)))))
 iterate 2 (refine Av F ?_; intro A F)
 refine Zn (iI 2) F fun A F => ?_
 refine Zv F (d_conv (v := iU 2) F rfl rfl (by kernel_rfl)) fun A F => ?_
 refine Zn (iU 1) F fun A F => ?_
 refine Zv F (d_conv (v := iI 1) F rfl rfl (by kernel_rfl)) fun A F => ?_
 refine Av F fun A F => ?_
 refine Nl kk (Sp fun _ kk => ?_)
 iterate 3 (refine Av F ?_; intro A F)
 refine Zv F (d_ixZ (k := 1) (g := g1) (off := 0) (z := 2) el_213 F rfl rfl rfl rfl rfl (by omega)) fun A F => ?_
 refine Zv F (Lr 0 [iI 1, pT g4 0] rw_217 F (H.rowBox (i := 0) rfl)) fun A F => ?_
 refine Av F fun A F => ?_
 have H := H.pickN 4 1 [1, 3, 0, 2] [0]
 refine Zx F (d_callCO (fv := []) (vs := [.agg #[iI 1, pT g4 0], iI 0]) (cv := []) if_152 F rfl rfl rfl (cx91 H)) ?_
 rintro _ w ⟨rfl, H⟩ A F
 refine Av F fun A F => ?_
 refine Nl kk (condF F rfl (Sx.plain ?_))
 iterate 2 (refine Av F ?_; intro A F)
 refine Sx.nil ?_
 try dsimp only [Exit.then, Exit.inBlock, Exit.jump, Exit.noGoto]
 rw [rounds_succ]
 refine Sx.seq fun K9 hK9 => Sp fun _ kk => ?_
 iterate 3 (refine Av F ?_; intro A F)
 refine Nl kk (condT F rfl (wp_skip (hK9 _ _ (wp_block (Sp fun _ kk => ?_)))))
 iterate 2 (refine Av F ?_; intro A F)
 refine Zn (iI 1) F fun A F => ?_
 refine Zv F (d_conv (v := iU 1) F rfl rfl (by kernel_rfl)) fun A F => ?_
 refine Zn (iU 0) F fun A F => ?_
 refine Zv F (d_conv (v := iI 0) F rfl rfl (by kernel_rfl)) fun A F => ?_
 refine Av F fun A F => ?_
 refine Nl kk (Sp fun _ kk => ?_)
 iterate 3 (refine Av F ?_; intro A F)
 refine Zv F (d_ixZ (k := 0) (g := g1) (off := 0) (z := 2) el_213 F rfl rfl rfl rfl rfl (by omega)) fun A F => ?_
 refine Zv F (Lr 0 [iI 0, pT g2 0] rw_217 F (H.rowBox (i := 0) rfl)) fun A F => ?_
 refine Av F fun A F => ?_
 have H := H.pickN 4 1 [2, 3, 0, 1] [0]
 refine Zx F (d_callCO (fv := []) (vs := [.agg #[iI 0, pT g2 0], iI 0]) (cv := []) if_152 F rfl rfl rfl (cx92 H)) ?_
 rintro _ w ⟨rfl, H⟩ A F
 refine Av F fun A F => ?_
 refine Nl kk (condF F rfl (Sx.plain ?_))
 iterate 2 (refine Av F ?_; intro A F)
 refine Sx.nil ?_
 try dsimp only [Exit.then, Exit.inBlock, Exit.jump, Exit.noGoto]
 rw [rounds_succ]
 refine Sx.seq fun K13 hK13 => Sp fun _ kk => ?_
 iterate 3 (refine Av F ?_; intro A F)
 refine Nl kk (condF F rfl (wp_exit ?_))
 try dsimp only [Exit.then, Exit.jump, Exit.noGoto]
 refine exit_here (hK4 _ _ (Sp fun _ kk => ?_))
 iterate 8 (refine Av F ?_; intro A F)
 refine Zv F (d_ixZ (k := 0) (g := g1) (off := 0) (z := 2) el_213 F rfl rfl rfl rfl rfl (by omega)) fun A F => ?_
 refine Zv F (Lr 0 [iI 0, pT g2 0] rw_217 F (H.rowBox (i := 0) rfl)) fun A F => ?_
 refine Av F fun A F => ?_
 refine Zx F (d_callCO (fv := []) (vs := [.agg #[iI 0, pT g2 0], iI 0]) (cv := []) if_152 F rfl rfl rfl (cx92 H)) ?_
 rintro _ w ⟨rfl, H⟩ A F
 iterate 4 (refine Av F ?_; intro A F)
 refine Nl kk (Wr (ret2 F Tryz.results151 (res_tmp F rfl) (res_tmp F rfl) ?_))
 exact ⟨_, rfl, rfl, H.pickN 4 1 [0, 2, 1, 3] [0]⟩
set_option maxRecDepth 100000 in
theorem cx94 {g1 g2 c1 g3 g4 g5 g6 : Nat} (hbc1 : 2 ≤ c1) (H : Sx.Own w0 w ((true, g1, [sL g2 0 2 c1, iI 2]) :: (true, g3, (L153 g4)) :: (true, g5, (L140 g6)) :: (true, g4, L139) :: (true, g6, L151) :: bs) (⟨true, sL g2 0 2 c1, 217, 2, 2, [iI 0, pT g3 0, iI 1, pT g5 0]⟩ :: rs) K) : Cq 123 #[pT g1 0, iI 0] w fun x w' => x = .tuple #[iI 0, bT] ∧ Sx.Own w0 w' ((true, g1, [sL g2 0 2 c1, iI 2]) :: (true, g3, (L153 g4)) :: (true, g5, (L140 g6)) :: (true, g4, L139) :: (true, g6, L151) :: bs) (⟨true, sL g2 0 2 c1, 217, 2, 2, [iI 0, pT g3 0, iI 1, pT g5 0]⟩ :: rs) K := by
 refine En Tryz.func123 Tryz.ntmps123 fun A F => ?_
 refine Sp fun _ kk => ?_
 iterate 2 (refine Av F ?_; intro A F)
 refine Nl kk (Sp fun _ kk => ?_)
 iterate 5 (refine Av F ?_; intro A F)
 have H := H.pickN 5 1 [1, 2, 3, 4, 0] [0]
 refine Zx F (Do if_151 F (cx93 (by omega) H)) ?_
 rintro _ w ⟨rfl, H⟩ A F
 iterate 4 (refine Av F ?_; intro A F)
 refine Nl kk (Wr (ret2 F Tryz.results123 (res_tmp F rfl) (res_tmp F rfl) ?_))
 exact ⟨_, rfl, rfl, H.pickN 5 1 [4, 0, 1, 2, 3] [0]⟩
set_option maxRecDepth 100000 in
theorem cx95 {g1 g2 c1 g3 g4 g5 g6 : Nat} (hbc1 : 2 ≤ c1) (H : Sx.Own w0 w ((true, g1, [sL g2 0 2 c1, iI 2]) :: (true, g3, (L153 g4)) :: (true, g5, (L140 g6)) :: (true, g4, L139) :: (true, g6, L151) :: bs) (⟨true, sL g2 0 2 c1, 217, 2, 2, [iI 0, pT g3 0, iI 1, pT g5 0]⟩ :: rs) K) : Cq 83 #[pT g1 0, iI 0] w fun x w' => x = .tuple #[pT g3 0, bT] ∧ Sx.Own w0 w' ((true, g1, [sL g2 0 2 c1, iI 2]) :: (true, g3, (L153 g4)) :: (true, g5, (L140 g6)) :: (true, g4, L139) :: (true, g6, L151) :: bs) (⟨true, sL g2 0 2 c1, 217, 2, 2, [iI 0, pT g3 0, iI 1, pT g5 0]⟩ :: rs) K := by
 refine En Tryz.func83 Tryz.ntmps83 fun A F => ?_
 refine Sp fun _ kk => ?_
 iterate 2 (refine Av F ?_; intro A F)
 refine Nl kk (Sp fun _ kk => ?_)
 iterate 2 (refine Av F ?_; intro A F)
 refine Zx F (Do if_123 F (cx94 (by omega) H)) ?_
 rintro _ w ⟨rfl, H⟩ A F
 iterate 5 (refine Av F ?_; intro A F)
 refine Nl kk (Sx.seq fun K3 hK3 => Sp fun _ kk => Av F fun A F => ?_)
 refine Zv F (d_un (v := bF) F rfl rfl rfl) fun A F => ?_
 refine Nl kk (condF F rfl (wp_skip (hK3 _ _ (Sp fun _ kk => ?_))))
 iterate 5 (refine Av F ?_; intro A F)
 refine Zv F (d_ixZ (k := 0) (g := g2) (off := 0) (z := 2) el_213 F rfl rfl rfl rfl rfl (by omega)) fun A F => ?_
 refine Av F fun A F => ?_
 refine Zv F (Ld 0 one_161 F (H.rowBox (i := 0) rfl)) fun A F => ?_
 iterate 2 (refine Av F ?_; intro A F)
 refine Nl kk (Wr (ret2 F Tryz.results83 (res_tmp F rfl) (res_tmp F rfl) ?_))
 exact ⟨_, rfl, rfl, H.pickN 5 1 [0, 1, 2, 3, 4] [0]⟩
set_option maxRecDepth 100000 in
theorem cx96 {g1 g2 g3 c1 g4 g5 g6 g7 : Nat} (hbc1 : 2 ≤ c1) (H : Sx.Own w0 w ((true, g1, [pT g2 0, iI 1, iU 0]) :: (true, g2, [sL g3 0 2 c1, iI 2]) :: (true, g4, (L153 g5)) :: (true, g6, (L140 g7)) :: (true, g5, L139) :: (true, g7, L151) :: bs) (⟨true, sL g3 0 2 c1, 217, 2, 2, [iI 0, pT g4 0, iI 1, pT g6 0]⟩ :: rs) K) : Cq 95 #[pT g1 0, iI 0] w fun x w' => x = .tuple #[pT g4 0, iI 0] ∧ Sx.Own w0 w' ((true, g1, [pT g2 0, iI 1, iU 0]) :: (true, g2, [sL g3 0 2 c1, iI 2]) :: (true, g4, (L153 g5)) :: (true, g6, (L140 g7)) :: (true, g5, L139) :: (true, g7, L151) :: bs) (⟨true, sL g3 0 2 c1, 217, 2, 2, [iI 0, pT g4 0, iI 1, pT g6 0]⟩ :: rs) K := by
 refine En Tryz.func95 Tryz.ntmps95 fun A F => ?_
 refine Sp fun _ kk => ?_
 iterate 2 (refine Av F ?_; intro A F)
 refine Nl kk (Sp fun _ kk => ?_)
 iterate 5 (refine Av F ?_; intro A F)
 have H := H.pickN 6 1 [1, 2, 3, 4, 5, 0] [0]
 refine Zx F (Do if_83 F (cx95 (by omega) H)) ?_
 rintro _ w ⟨rfl, H⟩ A F
 iterate 5 (refine Av F ?_; intro A F)
 refine Nl kk (Sx.seq fun K3 hK3 => Sp fun _ kk => Av F fun A F => ?_)
 refine Zv F (d_un (v := bF) F rfl rfl rfl) fun A F => ?_
 refine Nl kk (condF F rfl (wp_skip (hK3 _ _ (Sp fun _ kk => ?_))))
 iterate 3 (refine Av F ?_; intro A F)
 refine Nl kk (Wr (ret2 F Tryz.results95 (res_tmp F rfl) (res_tmp F rfl) ?_))
 exact ⟨_, rfl, rfl, H.pickN 6 1 [5, 0, 1, 2, 3, 4] [0]⟩
end
section
open Sx
variable {w0 w : World} {bs : List Sx.Bx} {rs : List Sx.Rx} {K : Nat → Option Obj}
set_option maxRecDepth 100000 in
theorem cx97 {g1 g2 : Nat}  (H : Sx.Own w0 w ((true, g1, (L153 g2)) :: (true, g2, L139) :: bs) (rs) K) : Cq 84 #[pT g1 0] w fun x w' => x = L146 ∧ Sx.Own w0 w' ((true, g1, (L153 g2)) :: (true, g2, L139) :: bs) (rs) K := by
 refine En Tryz.func84 Tryz.ntmps84 fun A F => ?_
 refine Sp fun _ kk => Zb F (d_alloc H rfl [iU 0, iU 0, iU 0, iU 0] zero_79) fun g3 A w F H => ?_
 refine Nl kk (Sx.seq fun K2 hK2 => ?_)
 have F := F.tq [(0, pT g1 0), (2, pT g3 0)] rfl
 refine Dn F [some (pT g1 0), some (pT g1 0), some (pT g1 0), some (pT g2 0), some (.agg #[iU 0, iU 0]), some (pT g1 0), some (pT g1 0), some (pT g1 1), some (L145), some (L146), none] (fun L A w => Sx.Own w0 w ((true, g3, (cond (L 10) L149 [iU 0, iU 0, iU 0, iU 0])) :: (true, g1, (L153 g2)) :: (true, g2, L139) :: bs) (rs) K) (H.drew.padG [] [] rfl rfl) ?_ ?_
 ·refine ⟨?_, ?_, ?_, ?_, ?_, ?_, ?_, ?_, ?_, ?_, ?_, trivial⟩
  ·exact Sa
  ·exact Sa
  ·exact Sa
  ·exact SV (fun _ _ _ F H => Ld 1 one_220 F H)
  ·intro L A w up hun hd F H
   have f10 : L 10 = false := up 10 4 rfl hun
   rw [f10] at H
   have H : Sx.Own w0 w ((true, g3, [iU 0, iU 0, iU 0, iU 0]) :: (true, g1, (L153 g2)) :: (true, g2, L139) :: bs) (rs) K := H
   have H := H.pickN 3 0 [2, 0, 1] []
   refine step_on rfl (Do if_124 F (cx76 H)) ?_
   rintro xv w' ⟨hx, H⟩
   have H := H.pickN 3 0 [1, 2, 0] []
   exact ⟨Cs hx, (by show Sx.Own _ _ _ _ _; rw [show Inv.add L 4 10 = false from f10]; exact H)⟩
  ·exact Sa
  ·exact Sa
  ·exact Sa
  ·exact SV (fun _ _ _ F H => Lr 1 [iU 0, iU 4611686018427387904] rw_26 F H)
  ·exact SV (fun _ _ _ F _ => d_build (qs := #[(0, .agg #[iU 0, iU 0]), (1, L145)]) (v := L146) F rfl rfl (by kernel_rfl))
  ·intro L A w up hun hd F H
   have f10 : L 10 = false := hun
   rw [f10] at H
   refine step_on rfl (d_store (i := 0) (xs := L149) (us := L149) sz_79 F H rfl rfl rfl rfl rfl rfl rfl (Nat.le_of_ble_eq_true rfl) rfl) ?_
   intro xv w' H
   exact ⟨Cn, H⟩
 ·intro L A w hL F H
  have t10 : L 10 = true := hL 10 rfl
  rw [t10] at H
  have H := H.pickN 3 0 [0, 1, 2] []
  have F := F.tq [(2, pT g3 0)] rfl
  refine hK2 _ _ (Wr (ret1 F Tryz.results84 (res_row (i := 0) (xs := L149) rw_79 F H rfl rfl rfl rfl) ?_))
  exact ⟨_, rfl, rfl, H.pickN 3 0 [1, 2] []⟩
set_option maxRecDepth 100000 in
theorem cx98   (H : Sx.Own w0 w (bs) (rs) K) : Cq 119 #[L146] w fun x w' => x = bT ∧ Sx.Own w0 w' (bs) (rs) K := by
 refine En Tryz.func119 Tryz.ntmps119 fun A F => ?_
 refine Sp fun _ kk => Zb F (d_box F H rfl rfl L149 rfl) fun g1 A w F H => ?_
 refine Av F fun A F => ?_
 refine Nl kk (Sp fun _ kk => ?_)
 iterate 4 (refine Av F ?_; intro A F)
 refine Zw F (Dc (v := iI (-1)) if_16 F H (Calls.val (v := iI (Wd.cmp 0#128 4611686018427387904#128)) (wcmp_c 0#128 4611686018427387904#128 _) rfl (by kernel_rfl))) fun A w F H => ?_
 iterate 2 (refine Av F ?_; intro A F)
 refine Nl kk (Wr (ret1 F Tryz.results119 (res_tmp F rfl) ?_))
 exact ⟨_, rfl, rfl, H.pickN 1 0 [] []⟩
set_option maxRecDepth 100000 in
theorem cx99   (H : Sx.Own w0 w (bs) (rs) K) : Cq 135 #[L146] w fun x w' => x = L145 ∧ Sx.Own w0 w' (bs) (rs) K := by
 refine En Tryz.func135 Tryz.ntmps135 fun A F => ?_
 refine Sp fun _ kk => Zb F (d_box F H rfl rfl L149 rfl) fun g1 A w F H => ?_
 refine Zb F (d_alloc H rfl [iU 0, iU 0] zero_26) fun g2 A w F H => ?_
 refine Nl kk (Sx.seq fun K2 hK2 => Sp fun _ kk => Av F fun A F => ?_)
 refine Zx F (Do if_119 F (cx98 H)) ?_
 rintro _ w ⟨rfl, H⟩ A F
 refine Zv F (d_un (v := bF) F rfl rfl rfl) fun A F => ?_
 refine Nl kk (condF F rfl (wp_skip (hK2 _ _ (Sp fun _ kk => ?_))))
 iterate 4 (refine Av F ?_; intro A F)
 refine Zw F (Dc (v := L150) if_155 F H (Calls.val (v := .tuple #[.agg #[uH (4611686018427387904#128 - 0#128), uL (4611686018427387904#128 - 0#128)], .bool (Wd.less 4611686018427387904#128 0#128)]) (wsub_c 4611686018427387904#128 0#128 _) rfl (by kernel_rfl))) fun A w F H => ?_
 iterate 3 (refine Av F ?_; intro A F)
 refine Zb F (d_alloc H rfl [iU 0, iU 0] zero_26) fun g3 A w F H => ?_
 refine Zs 0 [iU 0, iU 4611686018427387904] sz_26 F H fun A w F H => ?_
 refine Av F fun A F => ?_
 refine Nl kk (Sp fun _ kk => Av F fun A F => ?_)
 refine Zs 1 [iU 0, iU 4611686018427387904] sz_26 F H fun A w F H => ?_
 refine Nl kk (Wr (ret1 F Tryz.results135 (res_row (i := 1) (xs := [iU 0, iU 4611686018427387904]) rw_26 F H rfl rfl rfl rfl) ?_))
 exact ⟨_, rfl, rfl, H.pickN 3 0 [] []⟩
set_option maxRecDepth 100000 in
theorem cx100 {g1 g2 : Nat}  (H : Sx.Own w0 w ((true, g1, (L153 g2)) :: (true, g2, L139) :: bs) (rs) K) : Cq 158 #[pT g1 0] w fun x w' => x = L145 ∧ Sx.Own w0 w' ((true, g1, (L153 g2)) :: (true, g2, L139) :: bs) (rs) K := by
 refine En Tryz.func158 Tryz.ntmps158 fun A F => ?_
 refine Sp fun _ kk => Zb F (d_alloc H rfl [iU 0, iU 0] zero_26) fun g3 A w F H => ?_
 refine Nl kk (Sp fun _ kk => Av F fun A F => ?_)
 have H := H.pickN 3 0 [1, 2, 0] []
 refine Zx F (Do if_84 F (cx97 H)) ?_
 rintro _ w ⟨rfl, H⟩ A F
 refine Zx F (Do if_135 F (cx99 H)) ?_
 rintro _ w ⟨rfl, H⟩ A F
 refine Zs 2 [iU 0, iU 4611686018427387904] sz_26 F H fun A w F H => ?_
 refine Nl kk (Wr (ret1 F Tryz.results158 (res_row (i := 2) (xs := [iU 0, iU 4611686018427387904]) rw_26 F H rfl rfl rfl rfl) ?_))
 exact ⟨_, rfl, rfl, H.pickN 3 0 [0, 1] []⟩
set_option maxRecDepth 100000 in
theorem cx101 {g1 g2 : Nat}  (H : Sx.Own w0 w ((true, g1, (L153 g2)) :: (true, g2, L139) :: bs) (rs) K) : Cq 141 #[pT g1 0, .agg #[iU 0, iU 1]] w fun x w' => x = bT ∧ Sx.Own w0 w' ((true, g1, (L153 g2)) :: (true, g2, L139) :: bs) (rs) K := by
 refine En Tryz.func141 Tryz.ntmps141 fun A F => ?_
 refine Sp fun _ kk => Zb F (d_box F H rfl rfl [iU 0, iU 1] rfl) fun g3 A w F H => ?_
 refine Av F fun A F => ?_
 refine Nl kk (Sx.seq fun K2 hK2 => ?_)
 have F := F.tq [(0, pT g1 0), (3, pT g3 0)] rfl
 refine Dn F [some (.agg #[iU 0, iU 1]), some (pT g1 0), some (L145), some (iI (-1)), some (bT), some (bT)] (fun L A w => Sx.Own w0 w ((true, g3, [iU 0, iU 1]) :: (true, g1, (L153 g2)) :: (true, g2, L139) :: bs) (rs) K) (H.drew.padG [] [] rfl rfl) ?_ ?_
 ·refine ⟨?_, ?_, ?_, ?_, ?_, ?_, trivial⟩
  ·exact SV (fun _ _ _ F H => Lr 0 [iU 0, iU 1] rw_26 F H)
  ·exact Sa
  ·intro L A w up hun hd F H
   have H : Sx.Own w0 w ((true, g3, [iU 0, iU 1]) :: (true, g1, (L153 g2)) :: (true, g2, L139) :: bs) (rs) K := H
   have H := H.pickN 3 0 [1, 2, 0] []
   refine step_on rfl (Do if_158 F (cx100 H)) ?_
   rintro xv w' ⟨hx, H⟩
   have H := H.pickN 3 0 [2, 0, 1] []
   exact ⟨Cs hx, H⟩
  ·intro L A w up hun hd F H
   refine step_on rfl (Dc (v := iI (-1)) if_16 F H (Calls.val (v := iI (Wd.cmp 1#128 4611686018427387904#128)) (wcmp_c 1#128 4611686018427387904#128 _) rfl (by kernel_rfl))) ?_
   rintro xv w' ⟨hx, H⟩
   exact ⟨Cs hx, H⟩
  ·exact Sa
  ·exact Sa
 ·intro L A w hL F H
  have H := H.pickN 3 0 [0, 1, 2] []
  have F := F.tq [(4, bT)] rfl
  refine hK2 _ _ (Wr (ret1 F Tryz.results141 (res_tmp F rfl) ?_))
  exact ⟨_, rfl, rfl, H.pickN 3 0 [1, 2] []⟩
set_option maxRecDepth 100000 in
theorem cx102 {g1 : Nat}  (H : Sx.Own w0 w ((true, g1, L139) :: bs) (rs) K) : Cq 159 #[pT g1 0] w fun x w' => x = L126 ∧ Sx.Own w0 w' ((true, g1, L139) :: bs) (rs) K := by
 refine En Tryz.func159 Tryz.ntmps159 fun A F => ?_
 refine Sp fun _ kk => Zb F (d_alloc H rfl [iU 0, iU 0] zero_26) fun g2 A w F H => ?_
 refine Nl kk (Sx.seq fun K2 hK2 => ?_)
 have F := F.tq [(0, pT g1 0), (2, pT g2 0)] rfl
 refine Dn F [some (pT g1 0), some (pT g1 0), some (pT g1 0), some (iI 1), some (L126), some (pT g1 0), some (pT g1 0), some (pT g1 2), some (.agg #[iU 0, iU 0]), some (L142), some (L142), some (L126), some (bF), none, none, some (bF)] (fun L A w => ∃ g3 : Nat, (L 13 = true → A.eval (.tmp 3) = pT g3 0) ∧ Sx.Own w0 w ((L 13, g3, (cond (L 14) [iU 0, iU 9223372036854775808] [iU 0, iU 0])) :: (true, g2, [iU 0, iU 0]) :: (true, g1, L139) :: bs) (rs) K) ⟨0, (fun h => by cases h), H.drew.padG [(false, 0, [iU 0, iU 0])] [] rfl rfl⟩ ?_ ?_
 ·refine ⟨?_, ?_, ?_, ?_, ?_, ?_, ?_, ?_, ?_, ?_, ?_, ?_, ?_, ?_, ?_, ?_, trivial⟩
  ·exact Sa (hS := (fun _ _ _ _ ⟨g3, p13, H⟩ => ⟨g3, Pk p13, H⟩))
  ·exact Sa (hS := (fun _ _ _ _ ⟨g3, p13, H⟩ => ⟨g3, Pk p13, H⟩))
  ·exact Sa (hS := (fun _ _ _ _ ⟨g3, p13, H⟩ => ⟨g3, Pk p13, H⟩))
  ·exact SV (fun _ _ _ F ⟨g3, p13, H⟩ => Ld 2 one_3 F H) (fun _ _ _ _ ⟨g3, p13, H⟩ => ⟨g3, Pk p13, H⟩)
  ·intro L A w up hun hd F ⟨g3, p13, H⟩
   have f14 : L 14 = false := up 14 4 rfl hun
   rw [f14] at H
   refine step_on rfl (Dc (v := L126) if_17 F H (Calls.val (v := L95) (glimit1_c _) rfl (by kernel_rfl))) ?_
   rintro xv w' ⟨hx, H⟩
   exact ⟨Cs hx, ⟨g3, Pk p13, (by show Sx.Own _ _ _ _ _; rw [show Inv.add L 4 14 = false from f14]; exact H)⟩⟩
  ·exact Sa (hS := (fun _ _ _ _ ⟨g3, p13, H⟩ => ⟨g3, Pk p13, H⟩))
  ·exact Sa (hS := (fun _ _ _ _ ⟨g3, p13, H⟩ => ⟨g3, Pk p13, H⟩))
  ·exact Sa (hS := (fun _ _ _ _ ⟨g3, p13, H⟩ => ⟨g3, Pk p13, H⟩))
  ·exact SV (fun _ _ _ F ⟨g3, p13, H⟩ => Lr 2 [iU 0, iU 0] rw_26 F H) (fun _ _ _ _ ⟨g3, p13, H⟩ => ⟨g3, Pk p13, H⟩)
  ·intro L A w up hun hd F ⟨g3, p13, H⟩
   have f14 : L 14 = false := up 14 9 rfl hun
   rw [f14] at H
   refine step_on rfl (Dc (v := L142) if_155 F H (Calls.val (v := L144) (wsub_c 9223372036854775808#128 0#128 _) rfl (by kernel_rfl))) ?_
   rintro xv w' ⟨hx, H⟩
   exact ⟨Cs hx, ⟨g3, Pk p13, (by show Sx.Own _ _ _ _ _; rw [show Inv.add L 9 14 = false from f14]; exact H)⟩⟩
  ·exact Sa (hS := (fun _ _ _ _ ⟨g3, p13, H⟩ => ⟨g3, Pk p13, H⟩))
  ·exact Sa (hS := (fun _ _ _ _ ⟨g3, p13, H⟩ => ⟨g3, Pk p13, H⟩))
  ·exact Sa (hS := (fun _ _ _ _ ⟨g3, p13, H⟩ => ⟨g3, Pk p13, H⟩))
  ·intro L A w up hun hd F ⟨g3, p13, H⟩
   have f13 : L 13 = false := hun
   have f14 : L 14 = false := up 14 13 rfl hun
   rw [f13, f14] at H
   refine step_on rfl (d_alloc H rfl [iU 0, iU 0] zero_26) ?_
   rintro xv w' ⟨g4, hx, H⟩
   have H := H.pickN 4 0 [0, 2, 3] []
   exact ⟨Cn, ⟨g4, (fun _ => (Sx.put_same F (by decide) _).trans hx), (by show Sx.Own _ _ _ _ _; rw [show Inv.add L 13 14 = false from f14]; exact H)⟩⟩
  ·intro L A w up hun hd F ⟨g3, p13, H⟩
   have t13 : L 13 = true := hd 13 rfl
   have f14 : L 14 = false := hun
   rw [t13, f14] at H
   have F := Fr.add F (p13 t13)
   refine step_on rfl (d_store (i := 0) (xs := [iU 0, iU 9223372036854775808]) (us := [iU 0, iU 9223372036854775808]) sz_26 F H rfl rfl rfl rfl rfl rfl rfl (Nat.le_of_ble_eq_true rfl) rfl) ?_
   intro xv w' H
   exact ⟨Cn, ⟨g3, p13, (by show Sx.Own _ _ _ _ _; rw [show Inv.add L 14 13 = true from t13]; exact H)⟩⟩
  ·intro L A w up hun hd F ⟨g3, p13, H⟩
   have t13 : L 13 = true := hd 13 rfl
   have t14 : L 14 = true := hd 14 rfl
   have G := H; rw [t13, t14] at G
   have F := Fr.add F (p13 t13)
   refine step_on rfl (d_move F (Or.inr rfl) rfl) ?_
   rintro xv w' ⟨hx, rfl⟩
   exact ⟨Cs hx, ⟨g3, Pk p13, H⟩⟩
 ·intro L A w hL F ⟨g3, p13, H⟩
  have t13 : L 13 = true := hL 13 rfl
  have t14 : L 14 = true := hL 14 rfl
  rw [t13, t14] at H
  have F := Fr.add F (p13 t13)
  have H := H.pickN 3 0 [0, 1, 2] []
  have F := F.tq [(2, pT g2 0), (3, pT g3 0)] rfl
  refine hK2 _ _ (Sp fun _ kk => Av F fun A F => ?_)
  refine Zs 1 [iU 0, iU 9223372036854775808] sz_26 F H fun A w F H => ?_
  refine Nl kk (Wr (ret1 F Tryz.results159 (res_row (i := 1) (xs := [iU 0, iU 9223372036854775808]) rw_26 F H rfl rfl rfl rfl) ?_))
  exact ⟨_, rfl, rfl, H.pickN 3 0 [2] []⟩
set_option maxRecDepth 100000 in
abbrev L155 : Value := .agg #[iI 1, iU 17418742259747381416, iU 0, iU 0, iU 0, iU 0, iU 0, iU 0, iU 0, iU 0, iU 0, iU 0, iW 0, iW 0, bF]
abbrev L156 : List Value := [iU 16294208416658607535, iU 7960286522194355700, iU 487617019471545679, iU 17909611376780542444, iU 1961750202426094747, iU 6038094601263162090, iU 3207296026000306913, iU 14232521865600346940]
abbrev L157 : List Value := [.agg #[iI 1, iU 0, iU 0, iU 0, iU 0, iU 0, iU 0, iU 0, iU 0, iU 0, iU 0, iU 0, iW 0, iW 0, bF]]
abbrev L158 : Value := .agg #[iI 1, iU 11400714819323198485, iU 0, iU 0, iU 0, iU 0, iU 0, iU 0, iU 0, iU 0, iU 0, iU 0, iW 0, iW 0, bF]
abbrev L159 : List Value := [.agg #[iI 1, iU 11400714819323198485, iU 0, iU 0, iU 0, iU 0, iU 0, iU 0, iU 0, iU 0, iU 0, iU 0, iW 0, iW 0, bF]]
abbrev L160 : Value := .agg #[iI 1, iU 4354685564936845354, iU 0, iU 0, iU 0, iU 0, iU 0, iU 0, iU 0, iU 0, iU 0, iU 0, iW 0, iW 0, bF]
abbrev L161 : List Value := [.agg #[iI 1, iU 4354685564936845354, iU 0, iU 0, iU 0, iU 0, iU 0, iU 0, iU 0, iU 0, iU 0, iU 0, iW 0, iW 0, bF]]
abbrev L162 : Value := .agg #[iI 1, iU 15755400384260043839, iU 0, iU 0, iU 0, iU 0, iU 0, iU 0, iU 0, iU 0, iU 0, iU 0, iW 0, iW 0, bF]
abbrev L163 : List Value := [.agg #[iI 1, iU 15755400384260043839, iU 0, iU 0, iU 0, iU 0, iU 0, iU 0, iU 0, iU 0, iU 0, iU 0, iW 0, iW 0, bF]]
abbrev L164 : Value := .agg #[iI 1, iU 8709371129873690708, iU 0, iU 0, iU 0, iU 0, iU 0, iU 0, iU 0, iU 0, iU 0, iU 0, iW 0, iW 0, bF]
abbrev L165 : List Value := [.agg #[iI 1, iU 8709371129873690708, iU 0, iU 0, iU 0, iU 0, iU 0, iU 0, iU 0, iU 0, iU 0, iU 0, iW 0, iW 0, bF]]
abbrev L166 : Value := .agg #[iI 1, iU 1663341875487337577, iU 0, iU 0, iU 0, iU 0, iU 0, iU 0, iU 0, iU 0, iU 0, iU 0, iW 0, iW 0, bF]
abbrev L167 : List Value := [iI 1, iU 1663341875487337577, iU 0, iU 0, iU 0, iU 0, iU 0, iU 0, iU 0, iU 0, iU 0, iU 0, iW 0, iW 0, bF]
abbrev L168 : List Value := [.agg #[iI 1, iU 1663341875487337577, iU 0, iU 0, iU 0, iU 0, iU 0, iU 0, iU 0, iU 0, iU 0, iU 0, iW 0, iW 0, bF]]
abbrev L169 : Value := .agg #[iI 1, iU 13064056694810536062, iU 0, iU 0, iU 0, iU 0, iU 0, iU 0, iU 0, iU 0, iU 0, iU 0, iW 0, iW 0, bF]
abbrev L170 : List Value := [iI 1, iU 13064056694810536062, iU 0, iU 0, iU 0, iU 0, iU 0, iU 0, iU 0, iU 0, iU 0, iU 0, iW 0, iW 0, bF]
abbrev L171 : List Value := [.agg #[iI 1, iU 13064056694810536062, iU 0, iU 0, iU 0, iU 0, iU 0, iU 0, iU 0, iU 0, iU 0, iU 0, iW 0, iW 0, bF]]
abbrev L172 : Value := .agg #[iI 1, iU 6018027440424182931, iU 0, iU 0, iU 0, iU 0, iU 0, iU 0, iU 0, iU 0, iU 0, iU 0, iW 0, iW 0, bF]
abbrev L173 : List Value := [iI 1, iU 6018027440424182931, iU 0, iU 0, iU 0, iU 0, iU 0, iU 0, iU 0, iU 0, iU 0, iU 0, iW 0, iW 0, bF]
abbrev L174 : List Value := [.agg #[iI 1, iU 6018027440424182931, iU 0, iU 0, iU 0, iU 0, iU 0, iU 0, iU 0, iU 0, iU 0, iU 0, iW 0, iW 0, bF]]
abbrev L175 : List Value := [iI 1, iU 17418742259747381416, iU 0, iU 0, iU 0, iU 0, iU 0, iU 0, iU 0, iU 0, iU 0, iU 0, iW 0, iW 0, bF]
theorem cx103   (H : Sx.Own w0 w (bs) (rs) K) : Cq 55 #[L136, iI 8] w fun x w' => ∃ g18 c8 : Nat, 8 ≤ c8 ∧ x = .tuple #[sL g18 0 8 c8, L155, iI 0] ∧ Sx.Own w0 w' (bs) (⟨true, sL g18 0 8 c8, 22, 1, 8, L156⟩ :: rs) K := by
 refine En Tryz.func55 Tryz.ntmps55 fun A F => ?_
 refine Sp fun _ kk => Zb F (d_box F H rfl rfl L138 rfl) fun g1 A w F H => ?_
 refine Av F fun A F => ?_
 refine Zb F (d_alloc H rfl L135 zero_35) fun g2 A w F H => ?_
 refine Av F fun A F => ?_
 refine Nl kk (Sx.seq fun K2 hK2 => Sp fun _ kk => Av F fun A F => ?_)
 refine Zw F (Dc if_7 F H (gcheck1_ok 0#64 _)) fun A w F H => ?_
 refine Av F fun A F => ?_
 refine Nl kk (Sp fun _ kk => ?_)
 iterate 2 (refine Av F ?_; intro A F)
 refine Nl kk (condF F rfl (wp_skip (hK2 _ _ (Sx.seq fun K5 hK5 => Sp fun _ kk => ?_))))
 iterate 6 (refine Av F ?_; intro A F)
 refine Nl kk (condF F rfl (wp_skip (hK5 _ _ (Sp fun _ kk => ?_))))
 iterate 2 (refine Av F ?_; intro A F)
 refine Zw F (Dc if_26 F H (gof1_c _)) fun A w F H => ?_
 refine Av F fun A F => ?_
 refine Nl kk (Sp fun _ kk => Av F fun A F => ?_)
 refine Nl kk (Sx.seq fun K9 hK9 => Sp fun _ kk => ?_)
 iterate 2 (refine Av F ?_; intro A F)
 refine Nl kk (wp_block (wp_loop_rounds 40 ?_))
 try dsimp only [Exit.then, Exit.inBlock, Exit.jump, Exit.noGoto]
 rw [rounds_succ]
 refine Sp fun _ kk => Av F fun A F => ?_
 refine Nl kk (Sx.seq fun K12 hK12 => condT F rfl (wp_skip (hK12 _ _ (Sx.seq fun K13 hK13 => wp_block (Sp fun _ kk => ?_)))))
 iterate 3 (refine Av F ?_; intro A F)
 refine Zw F (d_callI (vs := L157) (v := iU 16294208416658607535) im_189 F H rfl rfl rfl (Calls.val (v := uN (Mx.word 0#64)) (gword1_c 1 0#64 Xo.zero 0#128 0#128 0#128 0#32 0#32 false _) rfl (by kernel_rfl))) fun A w F H => ?_
 refine Zg (mk := fun g => sL g 0 1 1) F (d_lit (qs := #[(0, iU 16294208416658607535)]) (cs := #[iU 16294208416658607535]) (E := 22) F H rfl rfl (fun _ => by kernel_rfl)) fun g3 A w F H => ?_
 have H := Sx.Own.nilR H 22 1
 refine Zr (mk := fun v => v) F (d_append (i := 0) (j := 0) el_65 F H rfl rfl rfl rfl rfl rfl rfl rfl (by decide) (by decide)) fun v1 A w F H => ?_
 obtain ⟨g4, c1, rfl, hbc1, hdc1⟩ := H.open (i := 0) rfl (by decide)
 refine Av F fun A F => ?_
 refine Nl kk (Sx.plain ?_)
 iterate 2 (refine Av F ?_; intro A F)
 refine Zw F (d_callI (vs := L157) (v := L158) im_187 F H rfl rfl rfl (Calls.val (v := .agg #[iI 1, uN (Mx.step 0#64), iU 0, iU 0, iU 0, iU 0, uN (Wd.hi 0#128), uN (Wd.lo 0#128), uN (Wd.hi 0#128), uN (Wd.lo 0#128), uN (Wd.hi 0#128), uN (Wd.lo 0#128), iW 0, iW 0, bF]) (gstep1_c 1 0#64 Xo.zero 0#128 0#128 0#128 0#32 0#32 false _) rfl (by kernel_rfl))) fun A w F H => ?_
 refine Zs 2 [iI 1, iU 11400714819323198485, iU 0, iU 0, iU 0, iU 0, iU 0, iU 0, iU 0, iU 0, iU 0, iU 0, iW 0, iW 0, bF] sz_35 F H fun A w F H => ?_
 refine Sx.nil (hK13 _ _ (Sx.plain ?_))
 refine Zn (iI 1) F fun A F => ?_
 refine Av F fun A F => ?_
 refine Sx.nil ?_
 try dsimp only [Exit.then, Exit.inBlock, Exit.jump, Exit.noGoto]
 rw [rounds_succ]
 refine Sp fun _ kk => Av F fun A F => ?_
 refine Nl kk (Sx.seq fun K16 hK16 => condT F rfl (wp_skip (hK16 _ _ (Sx.seq fun K17 hK17 => wp_block (Sp fun _ kk => ?_)))))
 iterate 3 (refine Av F ?_; intro A F)
 refine Zw F (d_callI (vs := L159) (v := iU 7960286522194355700) im_189 F H rfl rfl rfl (Calls.val (v := uN (Mx.word 11400714819323198485#64)) (gword1_c 1 11400714819323198485#64 Xo.zero 0#128 0#128 0#128 0#32 0#32 false _) rfl (by kernel_rfl))) fun A w F H => ?_
 refine Zg (mk := fun g => sL g 0 1 1) F (d_lit (qs := #[(0, iU 7960286522194355700)]) (cs := #[iU 7960286522194355700]) (E := 22) F H rfl rfl (fun _ => by kernel_rfl)) fun g5 A w F H => ?_
 refine Zr (mk := fun v => v) F (d_append (i := 0) (j := 0) el_65 F H rfl rfl rfl rfl rfl rfl rfl rfl (by decide) (by decide)) fun v2 A w F H => ?_
 obtain ⟨g6, c2, rfl, hbc2, hdc2⟩ := H.open (i := 0) rfl (by decide)
 refine Av F fun A F => ?_
 refine Nl kk (Sx.plain ?_)
 iterate 2 (refine Av F ?_; intro A F)
 refine Zw F (d_callI (vs := L159) (v := L160) im_187 F H rfl rfl rfl (Calls.val (v := .agg #[iI 1, uN (Mx.step 11400714819323198485#64), iU 0, iU 0, iU 0, iU 0, uN (Wd.hi 0#128), uN (Wd.lo 0#128), uN (Wd.hi 0#128), uN (Wd.lo 0#128), uN (Wd.hi 0#128), uN (Wd.lo 0#128), iW 0, iW 0, bF]) (gstep1_c 1 11400714819323198485#64 Xo.zero 0#128 0#128 0#128 0#32 0#32 false _) rfl (by kernel_rfl))) fun A w F H => ?_
 refine Zs 3 [iI 1, iU 4354685564936845354, iU 0, iU 0, iU 0, iU 0, iU 0, iU 0, iU 0, iU 0, iU 0, iU 0, iW 0, iW 0, bF] sz_35 F H fun A w F H => ?_
 refine Sx.nil (hK17 _ _ (Sx.plain ?_))
 refine Zn (iI 2) F fun A F => ?_
 refine Av F fun A F => ?_
 refine Sx.nil ?_
 try dsimp only [Exit.then, Exit.inBlock, Exit.jump, Exit.noGoto]
 rw [rounds_succ]
 refine Sp fun _ kk => Av F fun A F => ?_
 refine Nl kk (Sx.seq fun K20 hK20 => condT F rfl (wp_skip (hK20 _ _ (Sx.seq fun K21 hK21 => wp_block (Sp fun _ kk => ?_)))))
 iterate 3 (refine Av F ?_; intro A F)
 refine Zw F (d_callI (vs := L161) (v := iU 487617019471545679) im_189 F H rfl rfl rfl (Calls.val (v := uN (Mx.word 4354685564936845354#64)) (gword1_c 1 4354685564936845354#64 Xo.zero 0#128 0#128 0#128 0#32 0#32 false _) rfl (by kernel_rfl))) fun A w F H => ?_
 refine Zg (mk := fun g => sL g 0 1 1) F (d_lit (qs := #[(0, iU 487617019471545679)]) (cs := #[iU 487617019471545679]) (E := 22) F H rfl rfl (fun _ => by kernel_rfl)) fun g7 A w F H => ?_
 refine Zr (mk := fun v => v) F (d_append (i := 0) (j := 0) el_65 F H rfl rfl rfl rfl rfl rfl rfl rfl (by decide) (by decide)) fun v3 A w F H => ?_
 obtain ⟨g8, c3, rfl, hbc3, hdc3⟩ := H.open (i := 0) rfl (by decide)
 refine Av F fun A F => ?_
 refine Nl kk (Sx.plain ?_)
 iterate 2 (refine Av F ?_; intro A F)
 refine Zw F (d_callI (vs := L161) (v := L162) im_187 F H rfl rfl rfl (Calls.val (v := .agg #[iI 1, uN (Mx.step 4354685564936845354#64), iU 0, iU 0, iU 0, iU 0, uN (Wd.hi 0#128), uN (Wd.lo 0#128), uN (Wd.hi 0#128), uN (Wd.lo 0#128), uN (Wd.hi 0#128), uN (Wd.lo 0#128), iW 0, iW 0, bF]) (gstep1_c 1 4354685564936845354#64 Xo.zero 0#128 0#128 0#128 0#32 0#32 false _) rfl (by kernel_rfl))) fun A w F H => ?_
 refine Zs 4 [iI 1, iU 15755400384260043839, iU 0, iU 0, iU 0, iU 0, iU 0, iU 0, iU 0, iU 0, iU 0, iU 0, iW 0, iW 0, bF] sz_35 F H fun A w F H => ?_
 refine Sx.nil (hK21 _ _ (Sx.plain ?_))
 refine Zn (iI 3) F fun A F => ?_
 refine Av F fun A F => ?_
 refine Sx.nil ?_
 try dsimp only [Exit.then, Exit.inBlock, Exit.jump, Exit.noGoto]
 rw [rounds_succ]
 refine Sp fun _ kk => Av F fun A F => ?_
 refine Nl kk (Sx.seq fun K24 hK24 => condT F rfl (wp_skip (hK24 _ _ (Sx.seq fun K25 hK25 => wp_block (Sp fun _ kk => ?_)))))
 iterate 3 (refine Av F ?_; intro A F)
 refine Zw F (d_callI (vs := L163) (v := iU 17909611376780542444) im_189 F H rfl rfl rfl (Calls.val (v := uN (Mx.word 15755400384260043839#64)) (gword1_c 1 15755400384260043839#64 Xo.zero 0#128 0#128 0#128 0#32 0#32 false _) rfl (by kernel_rfl))) fun A w F H => ?_
 refine Zg (mk := fun g => sL g 0 1 1) F (d_lit (qs := #[(0, iU 17909611376780542444)]) (cs := #[iU 17909611376780542444]) (E := 22) F H rfl rfl (fun _ => by kernel_rfl)) fun g9 A w F H => ?_
 refine Zr (mk := fun v => v) F (d_append (i := 0) (j := 0) el_65 F H rfl rfl rfl rfl rfl rfl rfl rfl (by decide) (by decide)) fun v4 A w F H => ?_
 obtain ⟨g10, c4, rfl, hbc4, hdc4⟩ := H.open (i := 0) rfl (by decide)
 refine Av F fun A F => ?_
 refine Nl kk (Sx.plain ?_)
 iterate 2 (refine Av F ?_; intro A F)
 refine Zw F (d_callI (vs := L163) (v := L164) im_187 F H rfl rfl rfl (Calls.val (v := .agg #[iI 1, uN (Mx.step 15755400384260043839#64), iU 0, iU 0, iU 0, iU 0, uN (Wd.hi 0#128), uN (Wd.lo 0#128), uN (Wd.hi 0#128), uN (Wd.lo 0#128), uN (Wd.hi 0#128), uN (Wd.lo 0#128), iW 0, iW 0, bF]) (gstep1_c 1 15755400384260043839#64 Xo.zero 0#128 0#128 0#128 0#32 0#32 false _) rfl (by kernel_rfl))) fun A w F H => ?_
 refine Zs 5 [iI 1, iU 8709371129873690708, iU 0, iU 0, iU 0, iU 0, iU 0, iU 0, iU 0, iU 0, iU 0, iU 0, iW 0, iW 0, bF] sz_35 F H fun A w F H => ?_
 refine Sx.nil (hK25 _ _ (Sx.plain ?_))
 refine Zn (iI 4) F fun A F => ?_
 refine Av F fun A F => ?_
 refine Sx.nil ?_
 try dsimp only [Exit.then, Exit.inBlock, Exit.jump, Exit.noGoto]
 rw [rounds_succ]
 refine Sp fun _ kk => Av F fun A F => ?_
 refine Nl kk (Sx.seq fun K28 hK28 => condT F rfl (wp_skip (hK28 _ _ (Sx.seq fun K29 hK29 => wp_block (Sp fun _ kk => ?_)))))
 iterate 3 (refine Av F ?_; intro A F)
 refine Zw F (d_callI (vs := L165) (v := iU 1961750202426094747) im_189 F H rfl rfl rfl (Calls.val (v := uN (Mx.word 8709371129873690708#64)) (gword1_c 1 8709371129873690708#64 Xo.zero 0#128 0#128 0#128 0#32 0#32 false _) rfl (by kernel_rfl))) fun A w F H => ?_
 refine Zg (mk := fun g => sL g 0 1 1) F (d_lit (qs := #[(0, iU 1961750202426094747)]) (cs := #[iU 1961750202426094747]) (E := 22) F H rfl rfl (fun _ => by kernel_rfl)) fun g11 A w F H => ?_
 refine Zr (mk := fun v => v) F (d_append (i := 0) (j := 0) el_65 F H rfl rfl rfl rfl rfl rfl rfl rfl (by decide) (by decide)) fun v5 A w F H => ?_
 obtain ⟨g12, c5, rfl, hbc5, hdc5⟩ := H.open (i := 0) rfl (by decide)
 refine Av F fun A F => ?_
 refine Nl kk (Sx.plain ?_)
 iterate 2 (refine Av F ?_; intro A F)
 refine Zw F (d_callI (vs := L165) (v := L166) im_187 F H rfl rfl rfl (Calls.val (v := .agg #[iI 1, uN (Mx.step 8709371129873690708#64), iU 0, iU 0, iU 0, iU 0, uN (Wd.hi 0#128), uN (Wd.lo 0#128), uN (Wd.hi 0#128), uN (Wd.lo 0#128), uN (Wd.hi 0#128), uN (Wd.lo 0#128), iW 0, iW 0, bF]) (gstep1_c 1 8709371129873690708#64 Xo.zero 0#128 0#128 0#128 0#32 0#32 false _) rfl (by kernel_rfl))) fun A w F H => ?_
 refine Zs 6 L167 sz_35 F H fun A w F H => ?_
 refine Sx.nil (hK29 _ _ (Sx.plain ?_))
 refine Zn (iI 5) F fun A F => ?_
 refine Av F fun A F => ?_
 refine Sx.nil ?_
 try dsimp only [Exit.then, Exit.inBlock, Exit.jump, Exit.noGoto]
 rw [rounds_succ]
 refine Sp fun _ kk => Av F fun A F => ?_
 refine Nl kk (Sx.seq fun K32 hK32 => condT F rfl (wp_skip (hK32 _ _ (Sx.seq fun K33 hK33 => wp_block (Sp fun _ kk => ?_)))))
 iterate 3 (refine Av F ?_; intro A F)
 refine Zw F (d_callI (vs := L168) (v := iU 6038094601263162090) im_189 F H rfl rfl rfl (Calls.val (v := uN (Mx.word 1663341875487337577#64)) (gword1_c 1 1663341875487337577#64 Xo.zero 0#128 0#128 0#128 0#32 0#32 false _) rfl (by kernel_rfl))) fun A w F H => ?_
 refine Zg (mk := fun g => sL g 0 1 1) F (d_lit (qs := #[(0, iU 6038094601263162090)]) (cs := #[iU 6038094601263162090]) (E := 22) F H rfl rfl (fun _ => by kernel_rfl)) fun g13 A w F H => ?_
 refine Zr (mk := fun v => v) F (d_append (i := 0) (j := 0) el_65 F H rfl rfl rfl rfl rfl rfl rfl rfl (by decide) (by decide)) fun v6 A w F H => ?_
 obtain ⟨g14, c6, rfl, hbc6, hdc6⟩ := H.open (i := 0) rfl (by decide)
 refine Av F fun A F => ?_
 refine Nl kk (Sx.plain ?_)
 refine Av F fun A F => ?_
 refine Zv F (Lr 7 L167 rw_35 F H) fun A F => ?_
 refine Zw F (d_callI (vs := L168) (v := L169) im_187 F H rfl rfl rfl (Calls.val (v := .agg #[iI 1, uN (Mx.step 1663341875487337577#64), iU 0, iU 0, iU 0, iU 0, uN (Wd.hi 0#128), uN (Wd.lo 0#128), uN (Wd.hi 0#128), uN (Wd.lo 0#128), uN (Wd.hi 0#128), uN (Wd.lo 0#128), iW 0, iW 0, bF]) (gstep1_c 1 1663341875487337577#64 Xo.zero 0#128 0#128 0#128 0#32 0#32 false _) rfl (by kernel_rfl))) fun A w F H => ?_
 refine Zs 7 L170 sz_35 F H fun A w F H => ?_
 refine Sx.nil (hK33 _ _ (Sx.plain ?_))
 refine Zn (iI 6) F fun A F => ?_
 refine Av F fun A F => ?_
 refine Sx.nil ?_
 try dsimp only [Exit.then, Exit.inBlock, Exit.jump, Exit.noGoto]
 rw [rounds_succ]
 refine Sp fun _ kk => Av F fun A F => ?_
 refine Nl kk (Sx.seq fun K36 hK36 => condT F rfl (wp_skip (hK36 _ _ (Sx.seq fun K37 hK37 => wp_block (Sp fun _ kk => ?_)))))
 iterate 2 (refine Av F ?_; intro A F)
 refine Zv F (Lr 7 L170 rw_35 F H) fun A F => ?_
 refine Zw F (d_callI (vs := L171) (v := iU 3207296026000306913) im_189 F H rfl rfl rfl (Calls.val (v := uN (Mx.word 13064056694810536062#64)) (gword1_c 1 13064056694810536062#64 Xo.zero 0#128 0#128 0#128 0#32 0#32 false _) rfl (by kernel_rfl))) fun A w F H => ?_
 refine Zg (mk := fun g => sL g 0 1 1) F (d_lit (qs := #[(0, iU 3207296026000306913)]) (cs := #[iU 3207296026000306913]) (E := 22) F H rfl rfl (fun _ => by kernel_rfl)) fun g15 A w F H => ?_
 refine Zr (mk := fun v => v) F (d_append (i := 0) (j := 0) el_65 F H rfl rfl rfl rfl rfl rfl rfl rfl (by decide) (by decide)) fun v7 A w F H => ?_
 obtain ⟨g16, c7, rfl, hbc7, hdc7⟩ := H.open (i := 0) rfl (by decide)
 refine Av F fun A F => ?_
 refine Nl kk (Sx.plain ?_)
 refine Av F fun A F => ?_
 refine Zv F (Lr 8 L170 rw_35 F H) fun A F => ?_
 refine Zw F (d_callI (vs := L171) (v := L172) im_187 F H rfl rfl rfl (Calls.val (v := .agg #[iI 1, uN (Mx.step 13064056694810536062#64), iU 0, iU 0, iU 0, iU 0, uN (Wd.hi 0#128), uN (Wd.lo 0#128), uN (Wd.hi 0#128), uN (Wd.lo 0#128), uN (Wd.hi 0#128), uN (Wd.lo 0#128), iW 0, iW 0, bF]) (gstep1_c 1 13064056694810536062#64 Xo.zero 0#128 0#128 0#128 0#32 0#32 false _) rfl (by kernel_rfl))) fun A w F H => ?_
 refine Zs 8 L173 sz_35 F H fun A w F H => ?_
 refine Sx.nil (hK37 _ _ (Sx.plain ?_))
 refine Zn (iI 7) F fun A F => ?_
 refine Av F fun A F => ?_
 refine Sx.nil ?_
 try dsimp only [Exit.then, Exit.inBlock, Exit.jump, Exit.noGoto]
 rw [rounds_succ]
 refine Sp fun _ kk => Av F fun A F => ?_
 refine Nl kk (Sx.seq fun K40 hK40 => condT F rfl (wp_skip (hK40 _ _ (Sx.seq fun K41 hK41 => wp_block (Sp fun _ kk => ?_)))))
 iterate 2 (refine Av F ?_; intro A F)
 refine Zv F (Lr 8 L173 rw_35 F H) fun A F => ?_
 refine Zw F (d_callI (vs := L174) (v := iU 14232521865600346940) im_189 F H rfl rfl rfl (Calls.val (v := uN (Mx.word 6018027440424182931#64)) (gword1_c 1 6018027440424182931#64 Xo.zero 0#128 0#128 0#128 0#32 0#32 false _) rfl (by kernel_rfl))) fun A w F H => ?_
 refine Zg (mk := fun g => sL g 0 1 1) F (d_lit (qs := #[(0, iU 14232521865600346940)]) (cs := #[iU 14232521865600346940]) (E := 22) F H rfl rfl (fun _ => by kernel_rfl)) fun g17 A w F H => ?_
 refine Zr (mk := fun v => v) F (d_append (i := 0) (j := 0) el_65 F H rfl rfl rfl rfl rfl rfl rfl rfl (by decide) (by decide)) fun v8 A w F H => ?_
 obtain ⟨g18, c8, rfl, hbc8, hdc8⟩ := H.open (i := 0) rfl (by decide)
 refine Av F fun A F => ?_
 refine Nl kk (Sx.plain ?_)
 refine Av F fun A F => ?_
 refine Zv F (Lr 9 L173 rw_35 F H) fun A F => ?_
 refine Zw F (d_callI (vs := L174) (v := L155) im_187 F H rfl rfl rfl (Calls.val (v := .agg #[iI 1, uN (Mx.step 6018027440424182931#64), iU 0, iU 0, iU 0, iU 0, uN (Wd.hi 0#128), uN (Wd.lo 0#128), uN (Wd.hi 0#128), uN (Wd.lo 0#128), uN (Wd.hi 0#128), uN (Wd.lo 0#128), iW 0, iW 0, bF]) (gstep1_c 1 6018027440424182931#64 Xo.zero 0#128 0#128 0#128 0#32 0#32 false _) rfl (by kernel_rfl))) fun A w F H => ?_
 refine Zs 9 L175 sz_35 F H fun A w F H => ?_
 refine Sx.nil (hK41 _ _ (Sx.plain ?_))
 refine Zn (iI 8) F fun A F => ?_
 refine Av F fun A F => ?_
 refine Sx.nil ?_
 try dsimp only [Exit.then, Exit.inBlock, Exit.jump, Exit.noGoto]
 rw [rounds_succ]
 refine Sp fun _ kk => Av F fun A F => ?_
 refine Nl kk (Sx.seq fun K44 hK44 => condF F rfl (wp_exit ?_))
 try dsimp only [Exit.then, Exit.jump, Exit.noGoto]
 refine exit_here (hK9 _ _ (Sx.seq fun K45 hK45 => ?_))
 have F := F.tq [(2, pT g1 0), (5, pT g2 0), (9, sL g18 0 8 c8)] rfl
 refine Dn F [some (sL g18 0 8 c8), some (L155), some (sL g18 0 8 c8), none, some (iI 0)] (fun L A w => Sx.Own w0 w ((true, g17, [iU 14232521865600346940]) :: (true, g15, [iU 3207296026000306913]) :: (true, g13, [iU 6038094601263162090]) :: (true, g11, [iU 1961750202426094747]) :: (true, g9, [iU 17909611376780542444]) :: (true, g7, [iU 487617019471545679]) :: (true, g5, [iU 7960286522194355700]) :: (true, g3, [iU 16294208416658607535]) :: (true, g2, (cond (L 3) L175 L135)) :: (true, g1, L175) :: bs) (⟨true, sL g18 0 8 c8, 22, 1, 8, L156⟩ :: rs) K) (H.drew.padG [] [] rfl rfl) ?_ ?_
 ·refine ⟨?_, ?_, ?_, ?_, ?_, trivial⟩
  ·exact Sa
  ·exact SV (fun _ _ _ F H => Lr 9 L175 rw_35 F H)
  ·exact Sa
  ·intro L A w up hun hd F H
   have f3 : L 3 = false := hun
   rw [f3] at H
   refine step_on rfl (d_store (i := 8) (xs := L175) (us := L175) sz_35 F H rfl rfl rfl rfl rfl rfl rfl (Nat.le_of_ble_eq_true rfl) rfl) ?_
   intro xv w' H
   exact ⟨Cn, H⟩
  ·exact Sa
 ·intro L A w hL F H
  have t3 : L 3 = true := hL 3 rfl
  rw [t3] at H
  have H := H.pickN 10 1 [0, 1, 2, 3, 4, 5, 6, 7, 8, 9] [0]
  have F := F.tq [(5, pT g2 0), (4, sL g18 0 8 c8), (6, iI 0)] rfl
  refine hK45 _ _ (Wr (ret3 F Tryz.results55 (res_tmp F rfl) (res_row (i := 8) (xs := L175) rw_35 F H rfl rfl rfl rfl) (res_tmp F rfl) ?_))
  exact ⟨_, rfl, g18, c8, (by omega), rfl, H.pickN 10 1 [] [0]⟩
set_option maxRecDepth 100000 in
abbrev L176 (x0 : Nat) : List Value := [iI 1, iU 0, iU 0, iU 0, iU 16294208416658607535, iU 7960286522194355700, iU 487617019471545679, iU 17909611376780542444, iU 1961750202426094747, iU 6038094601263162090, iU 3207296026000306913, iU 14232521865600346940, sL x0 4 8 8, iI 1, iU 17418742259747381416, iU 0, iU 0, iU 0, iU 0, iU 0, iU 0, iU 0, iU 0, iU 0, iU 0, iW 0, iW 0, bF]
abbrev L177 : List Value := [iI 1, iU 0, iU 0, iU 0, iU 16294208416658607535, iU 7960286522194355700, iU 487617019471545679, iU 17909611376780542444, iU 1961750202426094747, iU 6038094601263162090, iU 3207296026000306913, iU 14232521865600346940, nS, iI 1, iU 0, iU 0, iU 0, iU 0, iU 0, iU 0, iU 0, iU 0, iU 0, iU 0, iU 0, iW 0, iW 0, bF]
abbrev L178 (x0 : Nat) : List Value := [iI 1, iU 0, iU 0, iU 0, iU 16294208416658607535, iU 7960286522194355700, iU 487617019471545679, iU 17909611376780542444, iU 1961750202426094747, iU 6038094601263162090, iU 3207296026000306913, iU 14232521865600346940, sL x0 4 8 8, iI 1, iU 0, iU 0, iU 0, iU 0, iU 0, iU 0, iU 0, iU 0, iU 0, iU 0, iU 0, iW 0, iW 0, bF]
theorem cx104 {g1 : Nat}  (H : Sx.Own w0 w ((true, g1, L139) :: bs) (rs) K) : Cq 162 #[pT g1 0] w fun x w' => x = .tuple #[] ∧ Sx.Own w0 w' ((true, g1, (L176 g1)) :: bs) (rs) K := by
 refine En Tryz.func162 Tryz.ntmps162 fun A F => ?_
 refine Sp fun _ kk => Av F fun A F => ?_
 refine Nl kk (Sx.seq fun K2 hK2 => Sp fun _ kk => Av F fun A F => ?_)
 refine Zx F (Do if_159 F (cx102 H)) ?_
 rintro _ w ⟨rfl, H⟩ A F
 refine Zb F (d_alloc H rfl [iU 0, iU 0] zero_26) fun g2 A w F H => ?_
 refine Zs 0 [iU 0, iU 9223372036854775808] sz_26 F H fun A w F H => ?_
 refine Nl kk (Sx.seq fun K4 hK4 => ?_)
 have F := F.tq [(0, pT g1 0), (2, iI 8), (3, pT g2 0)] rfl
 refine Dn F [some (L126), some (.agg #[iU 0, iU 8]), some (iI 1), some (bF)] (fun L A w => Sx.Own w0 w ((true, g2, [iU 0, iU 9223372036854775808]) :: (true, g1, L139) :: bs) (rs) K) (H.drew.padG [] [] rfl rfl) ?_ ?_
 ·refine ⟨?_, ?_, ?_, ?_, trivial⟩
  ·exact SV (fun _ _ _ F H => Lr 0 [iU 0, iU 9223372036854775808] rw_26 F H)
  ·intro L A w up hun hd F H
   refine step_on rfl (d_call (vs := [iU 8]) (v := .agg #[iU 0, iU 8]) if_15 F H rfl rfl (Calls.val (v := .agg #[uN (Wd.hi 8#128), uN (Wd.lo 8#128)]) (Calls.val (wofV_c 8#64 _) (by kernel_rfl) (by kernel_rfl)) rfl (by kernel_rfl))) ?_
   rintro xv w' ⟨hx, H⟩
   exact ⟨Cs hx, H⟩
  ·intro L A w up hun hd F H
   refine step_on rfl (Dc (v := iI 1) if_16 F H (Calls.val (v := iI (Wd.cmp 9223372036854775808#128 8#128)) (wcmp_c 9223372036854775808#128 8#128 _) rfl (by kernel_rfl))) ?_
   rintro xv w' ⟨hx, H⟩
   exact ⟨Cs hx, H⟩
  ·exact Sa
 ·intro L A w hL F H
  have H := H.pickN 2 0 [0, 1] []
  have F := F.tq [(0, pT g1 0), (2, iI 8), (3, pT g2 0), (13, bF)] rfl
  refine hK4 _ _ (condF F rfl (wp_skip (hK2 _ _ (Sp fun _ kk => ?_))))
  iterate 5 (refine Av F ?_; intro A F)
  refine Zx F (Do if_55 F (cx103 H)) ?_
  rintro _ w ⟨g3, c1, hbc1, rfl, H⟩ A F
  iterate 4 (refine Av F ?_; intro A F)
  refine Zb F (d_alloc H rfl L135 zero_35) fun g4 A w F H => ?_
  refine Av F fun A F => ?_
  refine Zs 0 L175 sz_35 F H fun A w F H => ?_
  refine Av F fun A F => ?_
  refine Nl kk (Sp fun _ kk => ?_)
  iterate 3 (refine Av F ?_; intro A F)
  refine Zv F (d_sliceG (v := sL g1 4 8 8) (lv := none) (hv := none) (mv := none) F rfl rfl rfl rfl rfl (by kernel_rfl)) fun A F => ?_
  refine Av F fun A F => ?_
  refine Zx F (d_copyB (i := 2) (cs := L156) (us := L177) (m := 8) (el_65).1 (by kernel_rfl) F H rfl rfl rfl rfl (by decide) (fun j u hu => Sx.box_part (news := L156) ((H.rowBox (i := 0) rfl).box 0 g3 _ rfl).1 rfl j u hu) rfl rfl (Nat.le_of_ble_eq_true rfl) rfl) ?_
  rintro _ w ⟨rfl, H⟩ A F
  have H : Sx.Own w0 w ((true, g4, L175) :: (true, g2, [iU 0, iU 9223372036854775808]) :: (true, g1, L177) :: bs) (⟨true, sL g3 0 8 c1, 22, 1, 8, L156⟩ :: rs) K := H
  refine Av F fun A F => ?_
  refine Nl kk ?_
  have F := F.tq [(0, pT g1 0), (5, pT g4 0), (7, iI 8)] rfl
  refine Dn F [some (pT g1 0), some (pT g1 0), some (pT g1 0), some (pT g1 0), some (pT g1 4), some (iI 8), some (iI 8), some (sL g1 4 8 8), some (L155), some (pT g1 0), some (pT g1 12), none, some (pT g1 0), some (pT g1 13), none] (fun L A w => Sx.Own w0 w ((true, g4, L175) :: (true, g2, [iU 0, iU 9223372036854775808]) :: (true, g1, (cond (L 14) (L176 g1) (cond (L 11) (L178 g1) L177))) :: bs) (⟨true, sL g3 0 8 c1, 22, 1, 8, L156⟩ :: rs) K) (H.drew.padG [] [] rfl rfl) ?_ ?_
  ·refine ⟨?_, ?_, ?_, ?_, ?_, ?_, ?_, ?_, ?_, ?_, ?_, ?_, ?_, ?_, ?_, trivial⟩
   ·exact Sa
   ·exact Sa
   ·exact Sa
   ·exact Sa
   ·exact Sa
   ·exact Sa
   ·exact Sa
   ·exact SV (fun _ _ _ F _ => d_sliceG (v := sL g1 4 8 8) (lv := none) (hv := some (iI 8)) (mv := some (iI 8)) F rfl rfl rfl rfl rfl (by kernel_rfl))
   ·exact SV (fun _ _ _ F H => Lr 0 L175 rw_35 F H)
   ·exact Sa
   ·exact Sa
   ·intro L A w up hun hd F H
    have f11 : L 11 = false := hun
    have f14 : L 14 = false := up 14 11 rfl hun
    rw [f11, f14] at H
    refine step_on rfl (d_store (i := 2) (xs := [sL g1 4 8 8]) (us := (L178 g1)) sz_65 F H rfl rfl rfl rfl rfl rfl rfl (Nat.le_of_ble_eq_true rfl) rfl) ?_
    intro xv w' H
    exact ⟨Cn, (by show Sx.Own _ _ _ _ _; rw [show Inv.add L 11 14 = false from f14]; exact H)⟩
   ·exact Sa
   ·exact Sa
   ·intro L A w up hun hd F H
    have t11 : L 11 = true := hd 11 rfl
    have f14 : L 14 = false := hun
    rw [t11, f14] at H
    refine step_on rfl (d_store (i := 2) (xs := L175) (us := (L176 g1)) sz_35 F H rfl rfl rfl rfl rfl rfl rfl (Nat.le_of_ble_eq_true rfl) rfl) ?_
    intro xv w' H
    exact ⟨Cn, (by show Sx.Own _ _ _ _ _; rw [show Inv.add L 14 11 = true from t11]; exact H)⟩
  ·intro L A w hL F H
   have t11 : L 11 = true := hL 11 rfl
   have t14 : L 14 = true := hL 14 rfl
   rw [t11, t14] at H
   have H := H.pickN 3 1 [0, 1, 2] [0]
   have F := F.tq [] rfl
   try dsimp only [Exit.then, Exit.inBlock, Exit.jump, Exit.noGoto]
   refine Sx.end0 F Tryz.results162 ?_
   exact ⟨_, rfl, rfl, H.pickN 3 1 [2] []⟩
set_option maxRecDepth 100000 in
abbrev L179 : Value := .tuple #[iU 16294208416658607535, iI 0]
abbrev L180 (x0 : Nat) : List Value := [iI 1, iU 0, iU 0, iU 1, iU 16294208416658607535, iU 7960286522194355700, iU 487617019471545679, iU 17909611376780542444, iU 1961750202426094747, iU 6038094601263162090, iU 3207296026000306913, iU 14232521865600346940, sL x0 5 7 7, iI 1, iU 17418742259747381416, iU 0, iU 0, iU 0, iU 0, iU 0, iU 0, iU 0, iU 0, iU 0, iU 0, iW 0, iW 0, bF]
abbrev L181 (x0 : Nat) : List Value := [iI 1, iU 0, iU 0, iU 0, iU 16294208416658607535, iU 7960286522194355700, iU 487617019471545679, iU 17909611376780542444, iU 1961750202426094747, iU 6038094601263162090, iU 3207296026000306913, iU 14232521865600346940, sL x0 5 7 7, iI 1, iU 17418742259747381416, iU 0, iU 0, iU 0, iU 0, iU 0, iU 0, iU 0, iU 0, iU 0, iU 0, iW 0, iW 0, bF]
theorem cx105 {g1 : Nat}  (H : Sx.Own w0 w ((true, g1, L139) :: bs) (rs) K) : Cq 157 #[pT g1 0] w fun x w' => x = L179 ∧ Sx.Own w0 w' ((true, g1, (L180 g1)) :: bs) (rs) K := by
 refine En Tryz.func157 Tryz.ntmps157 fun A F => ?_
 refine Sp fun _ kk => ?_
 iterate 2 (refine Av F ?_; intro A F)
 refine Nl kk (Sx.seq fun K2 hK2 => Sp fun _ kk => Av F fun A F => ?_)
 refine Zx F (Do if_159 F (cx102 H)) ?_
 rintro _ w ⟨rfl, H⟩ A F
 refine Zv F (d_build (qs := #[]) (v := .agg #[iU 0, iU 0]) F rfl rfl (by kernel_rfl)) fun A F => ?_
 refine Zn bF F fun A F => ?_
 refine Nl kk (condF F rfl (wp_skip (hK2 _ _ (Sx.seq fun K4 hK4 => Sp fun _ kk => ?_))))
 iterate 4 (refine Av F ?_; intro A F)
 refine Zv F (d_lenS el_65 F rfl rfl) fun A F => ?_
 refine Av F fun A F => ?_
 refine Nl kk (condT F rfl (Sx.plain ?_))
 refine Av F fun A F => ?_
 refine Zx F (Do if_162 F (cx104 H)) ?_
 rintro _ w ⟨rfl, H⟩ A F
 refine Sx.nil (hK4 _ _ (Sp fun _ kk => ?_))
 iterate 4 (refine Av F ?_; intro A F)
 refine Zv F (d_ix1 (k := 0) (g := g1) (off := 4) el_65 F rfl rfl rfl rfl rfl (by omega)) fun A F => ?_
 iterate 2 (refine Av F ?_; intro A F)
 refine Nl kk (Sp fun _ kk => ?_)
 iterate 5 (refine Av F ?_; intro A F)
 refine Zv F (d_sliceG (v := sL g1 5 7 7) (lv := some (iI 1)) (hv := none) (mv := none) F rfl rfl rfl rfl rfl (by kernel_rfl)) fun A F => ?_
 iterate 2 (refine Av F ?_; intro A F)
 refine Zs 0 (L181 g1) sz_65 F H fun A w F H => ?_
 refine Nl kk (Sx.seq fun K8 hK8 => ?_)
 have F := F.tq [(0, pT g1 0), (2, iU 0), (3, iI 0), (4, iU 16294208416658607535)] rfl
 refine Dn F [some (pT g1 0), some (pT g1 0), some (pT g1 0), some (pT g1 2), some (.agg #[iU 0, iU 0]), some (.agg #[iU 0, iU 1]), some (.tuple #[.agg #[iU 0, iU 1], bF]), some (.tuple #[.agg #[iU 0, iU 1], bF]), some (.agg #[iU 0, iU 1]), some (bF), some (pT g1 0), some (pT g1 2), none] (fun L A w => Sx.Own w0 w ((true, g1, (cond (L 12) (L180 g1) (L181 g1))) :: bs) (rs) K) (H.drew.padG [] [] rfl rfl) ?_ ?_
 ·refine ⟨?_, ?_, ?_, ?_, ?_, ?_, ?_, ?_, ?_, ?_, ?_, ?_, ?_, trivial⟩
  ·exact Sa
  ·exact Sa
  ·exact Sa
  ·exact Sa
  ·intro L A w up hun hd F H
   have f12 : L 12 = false := up 12 4 rfl hun
   have G := H; rw [f12] at G
   refine step_on rfl (Lr 0 [iU 0, iU 0] rw_26 F G) ?_
   rintro xv w' ⟨hx, rfl⟩
   exact ⟨Cs hx, H⟩
  ·intro L A w up hun hd F H
   have f12 : L 12 = false := up 12 5 rfl hun
   rw [f12] at H
   refine step_on rfl (d_call (vs := [iU 1]) (v := .agg #[iU 0, iU 1]) if_15 F H rfl rfl (Calls.val (v := L26) (Calls.val (wofV_c 1#64 _) (by kernel_rfl) (by kernel_rfl)) rfl (by kernel_rfl))) ?_
   rintro xv w' ⟨hx, H⟩
   exact ⟨Cs hx, (by show Sx.Own _ _ _ _ _; rw [show Inv.add L 5 12 = false from f12]; exact H)⟩
  ·intro L A w up hun hd F H
   have f12 : L 12 = false := up 12 6 rfl hun
   rw [f12] at H
   refine step_on rfl (Dc (v := .tuple #[.agg #[iU 0, iU 1], bF]) if_14 F H (Calls.val (v := .tuple #[.agg #[uH (0#128 + 1#128), uL (0#128 + 1#128)], .bool (Wd.over 0#128 1#128)]) (wadd_c 0#128 1#128 _) rfl (by kernel_rfl))) ?_
   rintro xv w' ⟨hx, H⟩
   exact ⟨Cs hx, (by show Sx.Own _ _ _ _ _; rw [show Inv.add L 6 12 = false from f12]; exact H)⟩
  ·exact Sa
  ·exact Sa
  ·exact Sa
  ·exact Sa
  ·exact Sa
  ·intro L A w up hun hd F H
   have f12 : L 12 = false := hun
   rw [f12] at H
   refine step_on rfl (d_store (i := 0) (xs := [iU 0, iU 1]) (us := (L180 g1)) sz_26 F H rfl rfl rfl rfl rfl rfl rfl (Nat.le_of_ble_eq_true rfl) rfl) ?_
   intro xv w' H
   exact ⟨Cn, H⟩
 ·intro L A w hL F H
  have t12 : L 12 = true := hL 12 rfl
  rw [t12] at H
  have H := H.pickN 1 0 [0] []
  have F := F.tq [(2, iU 0), (3, iI 0), (4, iU 16294208416658607535)] rfl
  refine hK8 _ _ (Sp fun _ kk => ?_)
  iterate 3 (refine Av F ?_; intro A F)
  refine Nl kk (Wr (ret2 F Tryz.results157 (res_tmp F rfl) (res_tmp F rfl) ?_))
  exact ⟨_, rfl, rfl, H.pickN 1 0 [0] []⟩
end
section
open Sx
variable {w0 w : World} {bs : List Sx.Bx} {rs : List Sx.Rx} {K : Nat → Option Obj}
set_option maxRecDepth 100000 in
theorem cx106 {g1 g2 : Nat}  (H : Sx.Own w0 w ((true, g1, (L153 g2)) :: (true, g2, L139) :: bs) (rs) K) : Cq 140 #[pT g1 0, iI 1] w fun x w' => ∃ g4 c1 : Nat, 1 ≤ c1 ∧ x = .tuple #[sL g4 0 1 c1, iI 0] ∧ Sx.Own w0 w' ((true, g1, (L153 g2)) :: (true, g2, (L180 g2)) :: bs) (⟨true, sL g4 0 1 c1, 22, 1, 1, [iU 16294208416658607535]⟩ :: rs) K := by
 refine En Tryz.func140 Tryz.ntmps140 fun A F => ?_
 refine Sp fun _ kk => ?_
 iterate 2 (refine Av F ?_; intro A F)
 refine Nl kk (Sp fun _ kk => Av F fun A F => ?_)
 refine Zv F (d_mkFunc (fv := [pT g1 0]) (cv := []) F rfl rfl rfl) fun A F => ?_
 refine Av F fun A F => ?_
 refine Nl kk (Sx.seq fun K3 hK3 => Sp fun _ kk => ?_)
 iterate 2 (refine Av F ?_; intro A F)
 refine Zv F (d_conv (v := iU 1) F rfl rfl (by kernel_rfl)) fun A F => ?_
 refine Zw F (d_call (vs := [iU 1]) (v := .agg #[iU 0, iU 1]) if_15 F H rfl rfl (Calls.val (v := L26) (Calls.val (wofV_c 1#64 _) (by kernel_rfl) (by kernel_rfl)) rfl (by kernel_rfl))) fun A w F H => ?_
 refine Zx F (d_callCO (fv := [pT g1 0]) (vs := [.agg #[iU 0, iU 1]]) (cv := []) if_141 F rfl rfl rfl (cx101 H)) ?_
 rintro _ w ⟨rfl, H⟩ A F
 refine Zv F (d_un (v := bF) F rfl rfl rfl) fun A F => ?_
 refine Nl kk (condF F rfl (wp_skip (hK3 _ _ (Sp fun _ kk => Av F fun A F => ?_))))
 refine Nl kk (Sx.seq fun K6 hK6 => Sp fun _ kk => ?_)
 iterate 2 (refine Av F ?_; intro A F)
 refine Nl kk (wp_block (wp_loop_rounds 40 ?_))
 try dsimp only [Exit.then, Exit.inBlock, Exit.jump, Exit.noGoto]
 rw [rounds_succ]
 refine Sp fun _ kk => Av F fun A F => ?_
 refine Nl kk (Sx.seq fun K9 hK9 => condT F rfl (wp_skip (hK9 _ _ (Sx.seq fun K10 hK10 => wp_block (Sp fun _ kk => ?_)))))
 iterate 4 (refine Av F ?_; intro A F)
 have H := H.pickN 2 0 [1, 0] []
 refine Zx F (Do if_157 F (cx105 H)) ?_
 rintro _ w ⟨rfl, H⟩ A F
 iterate 5 (refine Av F ?_; intro A F)
 refine Nl kk (Sx.seq fun K12 hK12 => Sp fun _ kk => ?_)
 iterate 2 (refine Av F ?_; intro A F)
 refine Nl kk (condF F rfl (wp_skip (hK12 _ _ (Sx.plain ?_))))
 iterate 2 (refine Av F ?_; intro A F)
 refine Zg (mk := fun g => sL g 0 1 1) F (d_lit (qs := #[(0, iU 16294208416658607535)]) (cs := #[iU 16294208416658607535]) (E := 22) F H rfl rfl (fun _ => by kernel_rfl)) fun g3 A w F H => ?_
 have H := Sx.Own.nilR H 22 1
 refine Zr (mk := fun v => v) F (d_append (i := 0) (j := 0) el_65 F H rfl rfl rfl rfl rfl rfl rfl rfl (by decide) (by decide)) fun v1 A w F H => ?_
 obtain ⟨g4, c1, rfl, hbc1, hdc1⟩ := H.open (i := 0) rfl (by decide)
 refine Av F fun A F => ?_
 refine Sx.nil (hK10 _ _ (Sx.plain ?_))
 refine Zn (iI 1) F fun A F => ?_
 refine Av F fun A F => ?_
 refine Sx.nil ?_
 try dsimp only [Exit.then, Exit.inBlock, Exit.jump, Exit.noGoto]
 rw [rounds_succ]
 refine Sp fun _ kk => Av F fun A F => ?_
 refine Nl kk (Sx.seq fun K15 hK15 => condF F rfl (wp_exit ?_))
 try dsimp only [Exit.then, Exit.jump, Exit.noGoto]
 refine exit_here (hK6 _ _ (Sp fun _ kk => ?_))
 iterate 3 (refine Av F ?_; intro A F)
 refine Nl kk (Wr (ret2 F Tryz.results140 (res_tmp F rfl) (res_tmp F rfl) ?_))
 exact ⟨_, rfl, g4, c1, (by omega), rfl, H.pickN 3 1 [2, 1] [0]⟩
set_option maxRecDepth 100000 in
theorem cx107 {g1 g2 : Nat}  (H : Sx.Own w0 w ((true, g1, (L153 g2)) :: (true, g2, L139) :: bs) (rs) K) : Cq 102 #[pT g1 0] w fun x w' => x = L179 ∧ Sx.Own w0 w' ((true, g1, (L153 g2)) :: (true, g2, (L180 g2)) :: bs) (rs) K := by
 refine En Tryz.func102 Tryz.ntmps102 fun A F => ?_
 refine Sp fun _ kk => ?_
 iterate 2 (refine Av F ?_; intro A F)
 refine Nl kk (Sp fun _ kk => Av F fun A F => ?_)
 refine Zx F (Do if_140 F (cx106 H)) ?_
 rintro _ w ⟨g3, c1, hbc1, rfl, H⟩ A F
 iterate 5 (refine Av F ?_; intro A F)
 refine Nl kk (Sx.seq fun K3 hK3 => Sp fun _ kk => ?_)
 iterate 2 (refine Av F ?_; intro A F)
 refine Nl kk (condF F rfl (wp_skip (hK3 _ _ (Sp fun _ kk => Av F fun A F => ?_))))
 refine Zv F (d_ix1 (k := 0) (g := g3) (off := 0) el_65 F rfl rfl rfl rfl rfl (by omega)) fun A F => ?_
 refine Zv F (Ld 0 one_22 F (H.rowBox (i := 0) rfl)) fun A F => ?_
 iterate 2 (refine Av F ?_; intro A F)
 refine Nl kk (Wr (ret2 F Tryz.results102 (res_tmp F rfl) (res_tmp F rfl) ?_))
 exact ⟨_, rfl, rfl, H.pickN 2 1 [0, 1] []⟩
set_option maxRecDepth 100000 in
theorem cx108 {g1 g2 g3 c1 g4 g5 g6 g7 : Nat} (hbc1 : 2 ≤ c1) (H : Sx.Own w0 w ((true, g1, [pT g2 0, iI 1, iU 0]) :: (true, g2, [sL g3 0 2 c1, iI 2]) :: (true, g4, (L153 g5)) :: (true, g6, (L140 g7)) :: (true, g5, L139) :: (true, g7, L151) :: bs) (⟨true, sL g3 0 2 c1, 217, 2, 2, [iI 0, pT g4 0, iI 1, pT g6 0]⟩ :: rs) K) : Cq 74 #[pT g1 0, iI 0] w fun x w' => x = L179 ∧ Sx.Own w0 w' ((true, g1, [pT g2 0, iI 1, iU 0]) :: (true, g2, [sL g3 0 2 c1, iI 2]) :: (true, g4, (L153 g5)) :: (true, g6, (L140 g7)) :: (true, g5, (L180 g5)) :: (true, g7, L151) :: bs) (⟨true, sL g3 0 2 c1, 217, 2, 2, [iI 0, pT g4 0, iI 1, pT g6 0]⟩ :: rs) K := by
 refine En Tryz.func74 Tryz.ntmps74 fun A F => ?_
 refine Sp fun _ kk => ?_
 iterate 2 (refine Av F ?_; intro A F)
 refine Nl kk (Sp fun _ kk => ?_)
 iterate 2 (refine Av F ?_; intro A F)
 refine Zx F (Do if_95 F (cx96 (by omega) H)) ?_
 rintro _ w ⟨rfl, H⟩ A F
 iterate 5 (refine Av F ?_; intro A F)
 refine Nl kk (Sx.seq fun K3 hK3 => Sp fun _ kk => ?_)
 iterate 2 (refine Av F ?_; intro A F)
 refine Nl kk (condF F rfl (wp_skip (hK3 _ _ (Sp fun _ kk => Av F fun A F => ?_))))
 have H := H.pickN 6 1 [2, 4, 0, 1, 3, 5] [0]
 refine Zx F (Do if_102 F (cx107 H)) ?_
 rintro _ w ⟨rfl, H⟩ A F
 iterate 4 (refine Av F ?_; intro A F)
 refine Nl kk (Wr (ret2 F Tryz.results74 (res_tmp F rfl) (res_tmp F rfl) ?_))
 exact ⟨_, rfl, rfl, H.pickN 6 1 [2, 3, 0, 4, 1, 5] [0]⟩
set_option maxRecDepth 100000 in
abbrev L182 : Value := .agg #[iI 0, iU 16294208416658607535, nS, nS, iI 0]
abbrev L183 : List Value := [iI 0, iU 16294208416658607535, nS, nS, iI 0]
theorem cx109 {g1 g2 g3 g4 c1 g5 g6 g7 g8 : Nat} (hbc1 : 2 ≤ c1) (H : Sx.Own w0 w ((true, g1, [pT g2 0]) :: (true, g2, [pT g3 0, iI 1, iU 0]) :: (true, g3, [sL g4 0 2 c1, iI 2]) :: (true, g5, (L153 g6)) :: (true, g7, (L140 g8)) :: (true, g6, L139) :: (true, g8, L151) :: bs) (⟨true, sL g4 0 2 c1, 217, 2, 2, [iI 0, pT g5 0, iI 1, pT g7 0]⟩ :: rs) K) : Cq 46 #[pT g1 0, L117] w fun x w' => x = L182 ∧ Sx.Own w0 w' ((true, g1, [pT g2 0]) :: (true, g2, [pT g3 0, iI 1, iU 0]) :: (true, g3, [sL g4 0 2 c1, iI 2]) :: (true, g5, (L153 g6)) :: (true, g7, (L140 g8)) :: (true, g6, (L180 g6)) :: (true, g8, L151) :: bs) (⟨true, sL g4 0 2 c1, 217, 2, 2, [iI 0, pT g5 0, iI 1, pT g7 0]⟩ :: rs) K := by
 refine En Tryz.func46 Tryz.ntmps46 fun A F => ?_
 refine Sp fun _ kk => Zb F (d_box F H rfl rfl L118 rfl) fun g9 A w F H => ?_
 refine Zb F (d_alloc H rfl [iI 0, iU 0, nS, nS, iI 0] zero_68) fun g10 A w F H => ?_
 refine Nl kk (Sx.seq fun K2 hK2 => ?_)
 have F := F.tq [(0, pT g1 0), (3, pT g9 0), (4, pT g10 0)] rfl
 refine Dn F [some (pT g1 0), some (pT g1 0), some (pT g1 0), some (pT g2 0), some (pT g9 1), some (iI 0), some (L179), some (L179), some (iU 16294208416658607535), some (iI 0), some (iU 16294208416658607535), some (iI 0)] (fun L A w => Sx.Own w0 w ((true, g10, [iI 0, iU 0, nS, nS, iI 0]) :: (true, g9, L118) :: (true, g1, [pT g2 0]) :: (true, g2, [pT g3 0, iI 1, iU 0]) :: (true, g3, [sL g4 0 2 c1, iI 2]) :: (true, g5, (L153 g6)) :: (true, g7, (L140 g8)) :: (true, g6, (cond (L 6) (L180 g6) L139)) :: (true, g8, L151) :: bs) (⟨true, sL g4 0 2 c1, 217, 2, 2, [iI 0, pT g5 0, iI 1, pT g7 0]⟩ :: rs) K) (H.drew.padG [] [] rfl rfl) ?_ ?_
 ·refine ⟨?_, ?_, ?_, ?_, ?_, ?_, ?_, ?_, ?_, ?_, ?_, ?_, trivial⟩
  ·exact Sa
  ·exact Sa
  ·exact Sa
  ·exact SV (fun _ _ _ F H => Ld 2 one_114 F H)
  ·exact Sa
  ·exact SV (fun _ _ _ F H => Ld 1 one_3 F H)
  ·intro L A w up hun hd F H
   have f6 : L 6 = false := hun
   rw [f6] at H
   have H : Sx.Own w0 w ((true, g10, [iI 0, iU 0, nS, nS, iI 0]) :: (true, g9, L118) :: (true, g1, [pT g2 0]) :: (true, g2, [pT g3 0, iI 1, iU 0]) :: (true, g3, [sL g4 0 2 c1, iI 2]) :: (true, g5, (L153 g6)) :: (true, g7, (L140 g8)) :: (true, g6, L139) :: (true, g8, L151) :: bs) (⟨true, sL g4 0 2 c1, 217, 2, 2, [iI 0, pT g5 0, iI 1, pT g7 0]⟩ :: rs) K := H
   have H := H.pickN 9 1 [3, 4, 5, 6, 7, 8, 0, 1, 2] [0]
   refine step_on rfl (Do if_74 F (cx108 (by omega) H)) ?_
   rintro xv w' ⟨hx, H⟩
   have H := H.pickN 9 1 [6, 7, 8, 0, 1, 2, 3, 4, 5] [0]
   exact ⟨Cs hx, H⟩
  ·exact Sa
  ·exact Sa
  ·exact Sa
  ·exact Sa
  ·exact Sa
 ·intro L A w hL F H
  have t6 : L 6 = true := hL 6 rfl
  rw [t6] at H
  have H := H.pickN 9 1 [0, 1, 2, 3, 4, 5, 6, 7, 8] [0]
  have F := F.tq [(4, pT g10 0), (5, iU 16294208416658607535), (6, iI 0)] rfl
  refine hK2 _ _ (Sp fun _ kk => ?_)
  iterate 2 (refine Av F ?_; intro A F)
  refine Zv F (d_build (qs := #[(1, iU 16294208416658607535), (4, iI 0)]) (v := L182) F rfl rfl (by kernel_rfl)) fun A F => ?_
  refine Zs 0 L183 sz_68 F H fun A w F H => ?_
  refine Nl kk (Wr (ret1 F Tryz.results46 (res_row (i := 0) (xs := L183) rw_68 F H rfl rfl rfl rfl) ?_))
  exact ⟨_, rfl, rfl, H.pickN 9 1 [2, 3, 4, 5, 6, 7, 8] [0]⟩
set_option maxRecDepth 100000 in
theorem cx110 {g1 g2 g3 g4 c1 g5 g6 g7 g8 : Nat} (hbc1 : 2 ≤ c1) (H : Sx.Own w0 w ((true, g1, [pT g2 0]) :: (true, g2, [pT g3 0, iI 1, iU 0]) :: (true, g3, [sL g4 0 2 c1, iI 2]) :: (true, g5, (L153 g6)) :: (true, g7, (L140 g8)) :: (true, g6, L139) :: (true, g8, L151) :: bs) (⟨true, sL g4 0 2 c1, 217, 2, 2, [iI 0, pT g5 0, iI 1, pT g7 0]⟩ :: rs) K) : Cq 19 #[pT g1 0, L117] w fun x w' => x = L182 ∧ Sx.Own w0 w' ((true, g1, [pT g2 0]) :: (true, g2, [pT g3 0, iI 1, iU 0]) :: (true, g3, [sL g4 0 2 c1, iI 2]) :: (true, g5, (L153 g6)) :: (true, g7, (L140 g8)) :: (true, g6, (L180 g6)) :: (true, g8, L151) :: bs) (⟨true, sL g4 0 2 c1, 217, 2, 2, [iI 0, pT g5 0, iI 1, pT g7 0]⟩ :: rs) K := by
 refine En Tryz.func19 Tryz.ntmps19 fun A F => ?_
 refine Sp fun _ kk => Zb F (d_box F H rfl rfl L118 rfl) fun g9 A w F H => ?_
 refine Zb F (d_alloc H rfl [iI 0, iU 0, nS, nS, iI 0] zero_68) fun g10 A w F H => ?_
 refine Nl kk (Sp fun _ kk => Zx F (d_makeMap F H rfl) ?_)
 rintro _ w ⟨mr, rfl, hmK, H⟩ A F
 have hmo : Tb.MapIs (.map #[] 0) [] := ⟨_, _, rfl, rfl⟩
 refine Zy F (d_mapIns (kt := 3) (et := 117) (by kernel_rfl) (by kernel_rfl) F H rfl rfl rfl rfl (if_pos rfl) hmo rfl) ?_
 rintro _ w ⟨mo1, hmo, H⟩ A F
 rw [Sx.upd_upd] at H
 have hmo : Tb.MapIs mo1 [(0, .func (.func 43) #[] #[])] := hmo
 refine Zy F (d_mapIns (kt := 3) (et := 117) (by kernel_rfl) (by kernel_rfl) F H rfl rfl rfl rfl (if_pos rfl) hmo rfl) ?_
 rintro _ w ⟨mo2, hmo, H⟩ A F
 rw [Sx.upd_upd] at H
 have hmo : Tb.MapIs mo2 [(0, .func (.func 43) #[] #[]), (1, .func (.func 44) #[] #[])] := hmo
 refine Zy F (d_mapIns (kt := 3) (et := 117) (by kernel_rfl) (by kernel_rfl) F H rfl rfl rfl rfl (if_pos rfl) hmo rfl) ?_
 rintro _ w ⟨mo3, hmo, H⟩ A F
 rw [Sx.upd_upd] at H
 have hmo : Tb.MapIs mo3 [(0, .func (.func 43) #[] #[]), (1, .func (.func 44) #[] #[]), (2, .func (.func 45) #[] #[])] := hmo
 refine Zy F (d_mapIns (kt := 3) (et := 117) (by kernel_rfl) (by kernel_rfl) F H rfl rfl rfl rfl (if_pos rfl) hmo rfl) ?_
 rintro _ w ⟨mo4, hmo, H⟩ A F
 rw [Sx.upd_upd] at H
 have hmo : Tb.MapIs mo4 [(0, .func (.func 43) #[] #[]), (1, .func (.func 44) #[] #[]), (2, .func (.func 45) #[] #[]), (3, .func (.func 46) #[] #[])] := hmo
 refine Zy F (d_mapIns (kt := 3) (et := 117) (by kernel_rfl) (by kernel_rfl) F H rfl rfl rfl rfl (if_pos rfl) hmo rfl) ?_
 rintro _ w ⟨mo5, hmo, H⟩ A F
 rw [Sx.upd_upd] at H
 have hmo : Tb.MapIs mo5 [(0, .func (.func 43) #[] #[]), (1, .func (.func 44) #[] #[]), (2, .func (.func 45) #[] #[]), (3, .func (.func 46) #[] #[]), (4, .func (.func 47) #[] #[])] := hmo
 refine Zy F (d_mapIns (kt := 3) (et := 117) (by kernel_rfl) (by kernel_rfl) F H rfl rfl rfl rfl (if_pos rfl) hmo rfl) ?_
 rintro _ w ⟨mo6, hmo, H⟩ A F
 rw [Sx.upd_upd] at H
 have hmo : Tb.MapIs mo6 [(0, .func (.func 43) #[] #[]), (1, .func (.func 44) #[] #[]), (2, .func (.func 45) #[] #[]), (3, .func (.func 46) #[] #[]), (4, .func (.func 47) #[] #[]), (5, .func (.func 48) #[] #[])] := hmo
 refine Zy F (d_mapIns (kt := 3) (et := 117) (by kernel_rfl) (by kernel_rfl) F H rfl rfl rfl rfl (if_pos rfl) hmo rfl) ?_
 rintro _ w ⟨mo7, hmo, H⟩ A F
 rw [Sx.upd_upd] at H
 have hmo : Tb.MapIs mo7 [(0, .func (.func 43) #[] #[]), (1, .func (.func 44) #[] #[]), (2, .func (.func 45) #[] #[]), (3, .func (.func 46) #[] #[]), (4, .func (.func 47) #[] #[]), (5, .func (.func 48) #[] #[]), (6, .func (.func 49) #[] #[])] := hmo
 refine Zy F (d_mapIns (kt := 3) (et := 117) (by kernel_rfl) (by kernel_rfl) F H rfl rfl rfl rfl (if_pos rfl) hmo rfl) ?_
 rintro _ w ⟨mo8, hmo, H⟩ A F
 rw [Sx.upd_upd] at H
 have hmo : Tb.MapIs mo8 [(0, .func (.func 43) #[] #[]), (1, .func (.func 44) #[] #[]), (2, .func (.func 45) #[] #[]), (3, .func (.func 46) #[] #[]), (4, .func (.func 47) #[] #[]), (5, .func (.func 48) #[] #[]), (6, .func (.func 49) #[] #[]), (7, .func (.func 50) #[] #[])] := hmo
 refine Zy F (d_mapIns (kt := 3) (et := 117) (by kernel_rfl) (by kernel_rfl) F H rfl rfl rfl rfl (if_pos rfl) hmo rfl) ?_
 rintro _ w ⟨mo9, hmo, H⟩ A F
 rw [Sx.upd_upd] at H
 have hmo : Tb.MapIs mo9 [(0, .func (.func 43) #[] #[]), (1, .func (.func 44) #[] #[]), (2, .func (.func 45) #[] #[]), (3, .func (.func 46) #[] #[]), (4, .func (.func 47) #[] #[]), (5, .func (.func 48) #[] #[]), (6, .func (.func 49) #[] #[]), (7, .func (.func 50) #[] #[]), (8, .func (.func 51) #[] #[])] := hmo
 refine Zy F (d_mapIns (kt := 3) (et := 117) (by kernel_rfl) (by kernel_rfl) F H rfl rfl rfl rfl (if_pos rfl) hmo rfl) ?_
 rintro _ w ⟨mo10, hmo, H⟩ A F
 rw [Sx.upd_upd] at H
 have hmo : Tb.MapIs mo10 [(0, .func (.func 43) #[] #[]), (1, .func (.func 44) #[] #[]), (2, .func (.func 45) #[] #[]), (3, .func (.func 46) #[] #[]), (4, .func (.func 47) #[] #[]), (5, .func (.func 48) #[] #[]), (6, .func (.func 49) #[] #[]), (7, .func (.func 50) #[] #[]), (8, .func (.func 51) #[] #[]), (9, .func (.func 52) #[] #[])] := hmo
 iterate 2 (refine Av F ?_; intro A F)
 refine Nl kk (Sp fun _ kk => ?_)
 iterate 3 (refine Av F ?_; intro A F)
 refine Zv F (d_lookup (kt := 3) (et := 117) (z := .nilFunc) (v := .func (.func 46) #[] #[]) (b := true) (by kernel_rfl) (by kernel_rfl) (fun _ => by kernel_rfl) F H rfl rfl rfl (if_pos rfl) hmo rfl) fun A F => ?_
 have H := H.unkeep1 hmK
 iterate 5 (refine Av F ?_; intro A F)
 refine Nl kk (Sx.seq fun K4 hK4 => wp_block (Sp fun _ kk => Av F fun A F => ?_))
 refine Zv F (d_un (v := bF) F rfl rfl rfl) fun A F => ?_
 refine Av F fun A F => ?_
 refine Nl kk (condF F rfl (Sp fun _ kk => Av F fun A F => ?_))
 have H := H.pickN 9 1 [2, 3, 4, 5, 6, 7, 8, 0, 1] [0]
 refine Zx F (Do if_53 F (cx90 (by omega) H)) ?_
 rintro _ w ⟨rfl, H⟩ A F
 refine Av F fun A F => ?_
 refine su F (wanted_off rfl (guard_known (d := 24) (b := false) F rfl rfl) rfl) rfl (by decide) (fun A F => ?_)
 refine su F (wanted_off rfl (guard_known (d := 24) (b := false) F rfl rfl) rfl) rfl (by decide) (fun A F => ?_)
 refine su F (wanted_off rfl (guard_known (d := 24) (b := false) F rfl rfl) rfl) rfl (by decide) (fun A F => ?_)
 iterate 2 (refine Av F ?_; intro A F)
 refine su F (wanted_off rfl (guard_known (d := 29) (b := false) F rfl rfl) rfl) rfl (by decide) (fun A F => ?_)
 refine su F (wanted_off rfl (guard_known (d := 29) (b := false) F rfl rfl) rfl) rfl (by decide) (fun A F => ?_)
 refine su F (wanted_off rfl (guard_known (d := 29) (b := false) F rfl rfl) rfl) rfl (by decide) (fun A F => ?_)
 iterate 2 (refine Av F ?_; intro A F)
 refine Nl kk (condF F rfl (wp_skip (hK4 _ _ (Sp fun _ kk => ?_))))
 iterate 2 (refine Av F ?_; intro A F)
 refine Zv F (Lr 8 L118 rw_71 F H) fun A F => ?_
 refine Zx F (d_callCO (fv := []) (vs := [pT g1 0, L117]) (cv := []) if_46 F rfl rfl rfl (cx109 (by omega) H)) ?_
 rintro _ w ⟨rfl, H⟩ A F
 refine Zs 7 L183 sz_68 F H fun A w F H => ?_
 refine Nl kk (Wr (ret1 F Tryz.results19 (res_row (i := 7) (xs := L183) rw_68 F H rfl rfl rfl rfl) ?_))
 exact ⟨_, rfl, rfl, H.pickN 9 1 [0, 1, 2, 3, 4, 5, 6] [0]⟩
set_option maxRecDepth 100000 in
theorem cx111 {g1 g2 c1 : Nat} (hbc1 : 3 ≤ c1) (H : Sx.Own w0 w ((true, g1, [nP]) :: bs) (⟨true, sL g2 0 3 c1, 71, 9, 3, L119⟩ :: rs) K) : Cq 25 #[pT g1 0, sL g2 0 3 c1] w fun x w' => ∃ g19 c6 g4 g5 g12 c4 g7 g8 g13 g14 : Nat, 3 ≤ c6 ∧ 2 ≤ c4 ∧ x = sL g19 0 3 c6 ∧ Sx.Own w0 w' ((true, g1, [pT g4 0]) :: (true, g4, [pT g5 0, iI 1, iU 0]) :: (true, g5, [sL g12 0 2 c4, iI 2]) :: (true, g7, (L153 g8)) :: (true, g13, (L140 g14)) :: (true, g8, (L180 g8)) :: (true, g14, L151) :: bs) (⟨true, sL g2 0 3 c1, 71, 9, 3, L119⟩ :: ⟨true, sL g19 0 3 c6, 68, 5, 3, [iI 0, iU 0, nS, nS, iI 0, iI 1, iU 0, nS, nS, iI 0, iI 0, iU 16294208416658607535, nS, nS, iI 0]⟩ :: ⟨true, sL g12 0 2 c4, 217, 2, 2, [iI 0, pT g7 0, iI 1, pT g13 0]⟩ :: rs) K := by
 refine En Tryz.func25 Tryz.ntmps25 fun A F => ?_
 refine Sp fun _ kk => Av F fun A F => ?_
 refine Nl kk (Sp fun _ kk => Av F fun A F => ?_)
 refine Nl kk (Sx.seq fun K3 hK3 => Sp fun _ kk => Av F fun A F => ?_)
 refine Zn bF F fun A F => ?_
 refine Nl kk (condF F rfl (wp_skip (hK3 _ _ (Sx.seq fun K5 hK5 => Sp fun _ kk => Av F fun A F => ?_))))
 refine Zv F (d_lenS el_83 F rfl rfl) fun A F => ?_
 refine Av F fun A F => ?_
 refine Nl kk (wp_block (wp_loop_rounds 40 ?_))
 try dsimp only [Exit.then, Exit.inBlock, Exit.jump, Exit.noGoto]
 rw [rounds_succ]
 refine Sp fun _ kk => Av F fun A F => ?_
 refine Nl kk (Sx.seq fun K8 hK8 => condT F rfl (wp_skip (hK8 _ _ (Sx.seq fun K9 hK9 => wp_block (Sp fun _ kk => Zv F (d_ixZ (k := 0) (g := g2) (off := 0) (z := 9) el_83 F rfl rfl rfl rfl rfl (by omega)) fun A F => ?_)))))
 refine Zv F (Lr 0 L106 rw_71 F (H.rowBox (i := 0) rfl)) fun A F => ?_
 refine Zb F (d_alloc H rfl L107 zero_71) fun g3 A w F H => ?_
 refine Zs 0 L106 sz_71 F H fun A w F H => ?_
 refine Nl kk (Sx.plain ?_)
 iterate 3 (refine Av F ?_; intro A F)
 have H := H.pickN 2 1 [1, 0] [0]
 refine Zx F (Do if_19 F (cx67 H)) ?_
 rintro _ w ⟨g4, g5, g6, c2, g7, g8, hbc2, rfl, H⟩ A F
 refine Zg (mk := fun g => sL g 0 1 1) F (d_lit (qs := #[(0, .agg #[iI 0, iU 0, nS, nS, iI 0])]) (cs := #[iI 0, iU 0, nS, nS, iI 0]) (E := 68) F H rfl rfl (fun _ => by kernel_rfl)) fun g9 A w F H => ?_
 have H := Sx.Own.nilR H 68 5
 refine Zr (mk := fun v => v) F (d_append (i := 0) (j := 0) el_86 F H rfl rfl rfl rfl rfl rfl rfl rfl (by decide) (by decide)) fun v1 A w F H => ?_
 obtain ⟨g10, c3, rfl, hbc3, hdc3⟩ := H.open (i := 0) rfl (by decide)
 refine Av F fun A F => ?_
 refine Sx.nil (hK9 _ _ (Sx.plain ?_))
 refine Zn (iI 1) F fun A F => ?_
 refine Av F fun A F => ?_
 refine Sx.nil ?_
 try dsimp only [Exit.then, Exit.inBlock, Exit.jump, Exit.noGoto]
 rw [rounds_succ]
 refine Sp fun _ kk => Av F fun A F => ?_
 refine Nl kk (Sx.seq fun K12 hK12 => condT F rfl (wp_skip (hK12 _ _ (Sx.seq fun K13 hK13 => wp_block (Sp fun _ kk => Zv F (d_ixZ (k := 1) (g := g2) (off := 0) (z := 9) el_83 F rfl rfl rfl rfl rfl (by omega)) fun A F => ?_)))))
 refine Zv F (Lr 0 L116 rw_71 F (H.rowBox (i := 2) rfl)) fun A F => ?_
 refine Zb F (d_alloc H rfl L107 zero_71) fun g11 A w F H => ?_
 refine Zs 0 L116 sz_71 F H fun A w F H => ?_
 refine Nl kk (Sx.plain ?_)
 iterate 3 (refine Av F ?_; intro A F)
 have H := H.pickN 8 3 [2, 3, 4, 5, 6, 0, 1, 7] [1, 0, 2]
 refine Zx F (Do if_19 F (cx89 (by omega) H)) ?_
 rintro _ w ⟨g12, c4, g13, g14, hbc4, rfl, H⟩ A F
 refine Zg (mk := fun g => sL g 0 1 1) F (d_lit (qs := #[(0, .agg #[iI 1, iU 0, nS, nS, iI 0])]) (cs := #[iI 1, iU 0, nS, nS, iI 0]) (E := 68) F H rfl rfl (fun _ => by kernel_rfl)) fun g15 A w F H => ?_
 refine Zr (mk := fun v => v) F (d_append (i := 1) (j := 0) el_86 F H rfl rfl rfl rfl rfl rfl rfl rfl (by decide) (by decide)) fun v2 A w F H => ?_
 obtain ⟨g16, c5, rfl, hbc5, hdc5⟩ := H.open (i := 1) rfl (by decide)
 refine Av F fun A F => ?_
 refine Sx.nil (hK13 _ _ (Sx.plain ?_))
 refine Zn (iI 2) F fun A F => ?_
 refine Av F fun A F => ?_
 refine Sx.nil ?_
 try dsimp only [Exit.then, Exit.inBlock, Exit.jump, Exit.noGoto]
 rw [rounds_succ]
 refine Sp fun _ kk => Av F fun A F => ?_
 refine Nl kk (Sx.seq fun K16 hK16 => condT F rfl (wp_skip (hK16 _ _ (Sx.seq fun K17 hK17 => wp_block (Sp fun _ kk => Zv F (d_ixZ (k := 2) (g := g2) (off := 0) (z := 9) el_83 F rfl rfl rfl rfl rfl (by omega)) fun A F => ?_)))))
 refine Zv F (Lr 0 L118 rw_71 F (H.rowBox (i := 2) rfl)) fun A F => ?_
 refine Zb F (d_alloc H rfl L107 zero_71) fun g17 A w F H => ?_
 refine Zs 0 L118 sz_71 F H fun A w F H => ?_
 refine Nl kk (Sx.plain ?_)
 iterate 3 (refine Av F ?_; intro A F)
 have H := H.pickN 12 3 [2, 3, 4, 5, 7, 6, 8, 0, 1, 9, 10, 11] [0, 1, 2]
 refine Zx F (Do if_19 F (cx110 (by omega) H)) ?_
 rintro _ w ⟨rfl, H⟩ A F
 refine Zg (mk := fun g => sL g 0 1 1) F (d_lit (qs := #[(0, L182)]) (cs := #[iI 0, iU 16294208416658607535, nS, nS, iI 0]) (E := 68) F H rfl rfl (fun _ => by kernel_rfl)) fun g18 A w F H => ?_
 refine Zr (mk := fun v => v) F (d_append (i := 1) (j := 0) el_86 F H rfl rfl rfl rfl rfl rfl rfl rfl (by decide) (by decide)) fun v3 A w F H => ?_
 obtain ⟨g19, c6, rfl, hbc6, hdc6⟩ := H.open (i := 1) rfl (by decide)
 refine Av F fun A F => ?_
 refine Sx.nil (hK17 _ _ (Sx.plain ?_))
 refine Zn (iI 3) F fun A F => ?_
 refine Av F fun A F => ?_
 refine Sx.nil ?_
 try dsimp only [Exit.then, Exit.inBlock, Exit.jump, Exit.noGoto]
 rw [rounds_succ]
 refine Sp fun _ kk => Av F fun A F => ?_
 refine Nl kk (Sx.seq fun K20 hK20 => condF F rfl (wp_exit ?_))
 try dsimp only [Exit.then, Exit.jump, Exit.noGoto]
 refine exit_here (hK5 _ _ (Sp fun _ kk => ?_))
 iterate 2 (refine Av F ?_; intro A F)
 refine Nl kk (Wr (ret1 F Tryz.results25 (res_tmp F rfl) ?_))
 exact ⟨_, rfl, g19, c6, g4, g5, g12, c4, g7, g8, g13, g14, (by omega), (by omega), rfl, H.pickN 13 3 [1, 2, 3, 4, 5, 6, 7] [2, 1, 0]⟩
set_option maxRecDepth 100000 in
theorem cx112 {g1 g2 g3 g4 c1 g5 g6 g7 g8 : Nat} (hbc1 : 2 ≤ c1) (H : Sx.Own w0 w ((true, g1, [pT g2 0]) :: (true, g2, [pT g3 0, iI 1, iU 0]) :: (true, g3, [sL g4 0 2 c1, iI 2]) :: (true, g5, (L153 g6)) :: (true, g7, (L140 g8)) :: (true, g6, (L180 g6)) :: (true, g8, L151) :: bs) (⟨true, sL g4 0 2 c1, 217, 2, 2, [iI 0, pT g5 0, iI 1, pT g7 0]⟩ :: rs) K) : Cq 53 #[pT g1 0] w fun x w' => x = bF ∧ Sx.Own w0 w' ((true, g1, [pT g2 0]) :: (true, g2, [pT g3 0, iI 1, iU 0]) :: (true, g3, [sL g4 0 2 c1, iI 2]) :: (true, g5, (L153 g6)) :: (true, g7, (L140 g8)) :: (true, g6, (L180 g6)) :: (true, g8, L151) :: bs) (⟨true, sL g4 0 2 c1, 217, 2, 2, [iI 0, pT g5 0, iI 1, pT g7 0]⟩ :: rs) K := by
 refine En Tryz.func53 Tryz.ntmps53 fun A F => ?_
 refine Sp fun _ kk => Av F fun A F => ?_
 refine Nl kk (Sp fun _ kk => ?_)
 iterate 4 (refine Av F ?_; intro A F)
 refine Zn bF F fun A F => ?_
 refine Av F fun A F => ?_
 refine Nl kk (Wr (ret1 F Tryz.results53 (res_tmp F rfl) ?_))
 exact ⟨_, rfl, rfl, H.pickN 7 1 [0, 1, 2, 3, 4, 5, 6] [0]⟩
set_option maxRecDepth 100000 in
theorem cx113 {g1 g2 c1 g3 g4 g5 g6 : Nat} (hbc1 : 2 ≤ c1) (H : Sx.Own w0 w ((true, g1, [sL g2 0 2 c1, iI 2]) :: (true, g3, (L153 g4)) :: (true, g5, (L140 g6)) :: (true, g4, (L180 g4)) :: (true, g6, L151) :: bs) (⟨true, sL g2 0 2 c1, 217, 2, 2, [iI 0, pT g3 0, iI 1, pT g5 0]⟩ :: rs) K) : Cq 82 #[pT g1 0] w fun x w' => ∃ g12 c3 : Nat, 2 ≤ c3 ∧ x = sL g12 0 2 c3 ∧ Sx.Own w0 w' ((true, g1, [sL g2 0 2 c1, iI 2]) :: (true, g3, (L153 g4)) :: (true, g5, (L140 g6)) :: (true, g4, (L180 g4)) :: (true, g6, L151) :: bs) (⟨true, sL g2 0 2 c1, 217, 2, 2, [iI 0, pT g3 0, iI 1, pT g5 0]⟩ :: ⟨true, sL g12 0 2 c3, 3, 1, 2, [iI 0, iI 1]⟩ :: rs) K := by
 refine En Tryz.func82 Tryz.ntmps82 fun A F => ?_
 refine Sp fun _ kk => Av F fun A F => ?_
 refine Nl kk (Sp fun _ kk => Av F fun A F => ?_)
 refine Nl kk (Sx.seq fun K3 hK3 => Sp fun _ kk => ?_)
 iterate 4 (refine Av F ?_; intro A F)
 refine Zv F (d_lenS el_213 F rfl rfl) fun A F => ?_
 refine Av F fun A F => ?_
 refine Nl kk (wp_block (wp_loop_rounds 40 ?_))
 try dsimp only [Exit.then, Exit.inBlock, Exit.jump, Exit.noGoto]
 rw [rounds_succ]
 refine Sp fun _ kk => Av F fun A F => ?_
 refine Nl kk (Sx.seq fun K6 hK6 => condT F rfl (wp_skip (hK6 _ _ (Sx.seq fun K7 hK7 => wp_block (Sp fun _ kk => Zv F (d_ixZ (k := 0) (g := g2) (off := 0) (z := 2) el_213 F rfl rfl rfl rfl rfl (by omega)) fun A F => ?_)))))
 refine Zv F (Lr 0 [iI 0, pT g3 0] rw_217 F (H.rowBox (i := 0) rfl)) fun A F => ?_
 refine Zb F (d_alloc H rfl [iI 0, nP] zero_217) fun g7 A w F H => ?_
 refine Zs 0 [iI 0, pT g3 0] sz_217 F H fun A w F H => ?_
 refine Nl kk (Sx.plain ?_)
 iterate 3 (refine Av F ?_; intro A F)
 refine Zg (mk := fun g => sL g 0 1 1) F (d_lit (qs := #[(0, iI 0)]) (cs := #[iI 0]) (E := 3) F H rfl rfl (fun _ => by kernel_rfl)) fun g8 A w F H => ?_
 have H := Sx.Own.nilR H 3 1
 refine Zr (mk := fun v => v) F (d_append (i := 0) (j := 0) el_54 F H rfl rfl rfl rfl rfl rfl rfl rfl (by decide) (by decide)) fun v1 A w F H => ?_
 obtain ⟨g9, c2, rfl, hbc2, hdc2⟩ := H.open (i := 0) rfl (by decide)
 refine Av F fun A F => ?_
 refine Sx.nil (hK7 _ _ (Sx.plain ?_))
 refine Zn (iI 1) F fun A F => ?_
 refine Av F fun A F => ?_
 refine Sx.nil ?_
 try dsimp only [Exit.then, Exit.inBlock, Exit.jump, Exit.noGoto]
 rw [rounds_succ]
 refine Sp fun _ kk => Av F fun A F => ?_
 refine Nl kk (Sx.seq fun K10 hK10 => condT F rfl (wp_skip (hK10 _ _ (Sx.seq fun K11 hK11 => wp_block (Sp fun _ kk => Zv F (d_ixZ (k := 1) (g := g2) (off := 0) (z := 2) el_213 F rfl rfl rfl rfl rfl (by omega)) fun A F => ?_)))))
 refine Zv F (Lr 0 [iI 1, pT g5 0] rw_217 F (H.rowBox (i := 1) rfl)) fun A F => ?_
 refine Zb F (d_alloc H rfl [iI 0, nP] zero_217) fun g10 A w F H => ?_
 refine Zs 0 [iI 1, pT g5 0] sz_217 F H fun A w F H => ?_
 refine Nl kk (Sx.plain ?_)
 iterate 3 (refine Av F ?_; intro A F)
 refine Zg (mk := fun g => sL g 0 1 1) F (d_lit (qs := #[(0, iI 1)]) (cs := #[iI 1]) (E := 3) F H rfl rfl (fun _ => by kernel_rfl)) fun g11 A w F H => ?_
 refine Zr (mk := fun v => v) F (d_append (i := 0) (j := 0) el_54 F H rfl rfl rfl rfl rfl rfl rfl rfl (by decide) (by decide)) fun v2 A w F H => ?_
 obtain ⟨g12, c3, rfl, hbc3, hdc3⟩ := H.open (i := 0) rfl (by decide)
 refine Av F fun A F => ?_
 refine Sx.nil (hK11 _ _ (Sx.plain ?_))
 refine Zn (iI 2) F fun A F => ?_
 refine Av F fun A F => ?_
 refine Sx.nil ?_
 try dsimp only [Exit.then, Exit.inBlock, Exit.jump, Exit.noGoto]
 rw [rounds_succ]
 refine Sp fun _ kk => Av F fun A F => ?_
 refine Nl kk (Sx.seq fun K14 hK14 => condF F rfl (wp_exit ?_))
 try dsimp only [Exit.then, Exit.jump, Exit.noGoto]
 refine exit_here (hK3 _ _ (Sp fun _ kk => ?_))
 iterate 2 (refine Av F ?_; intro A F)
 refine Nl kk (Wr (ret1 F Tryz.results82 (res_tmp F rfl) ?_))
 exact ⟨_, rfl, g12, c3, (by omega), rfl, H.pickN 9 2 [4, 5, 6, 7, 8] [1, 0]⟩
set_option maxRecDepth 100000 in
theorem cx114 {g1 g2 : Nat}  (H : Sx.Own w0 w ((true, g1, (L153 g2)) :: (true, g2, (L180 g2)) :: bs) (rs) K) : Cq 152 #[.agg #[iI 0, pT g1 0], iI 0] w fun x w' => x = iI 0 ∧ Sx.Own w0 w' ((true, g1, (L153 g2)) :: (true, g2, (L180 g2)) :: bs) (rs) K := by
 refine En Tryz.func152 Tryz.ntmps152 fun A F => ?_
 refine Sp fun _ kk => Zb F (d_box F H rfl rfl [iI 0, pT g1 0] rfl) fun g3 A w F H => ?_
 refine Av F fun A F => ?_
 refine Nl kk (Sp fun _ kk => ?_)
 iterate 3 (refine Av F ?_; intro A F)
 refine Zv F (d_max (r := 0) F rfl rfl rfl (by decide)) fun A F => ?_
 refine Zv F (d_min (r := 0) F rfl rfl rfl (by decide)) fun A F => ?_
 refine Zn (iI 0) F fun A F => ?_
 refine Av F fun A F => ?_
 refine Nl kk (Wr (ret1 F Tryz.results152 (res_tmp F rfl) ?_))
 exact ⟨_, rfl, rfl, H.pickN 3 0 [1, 2] []⟩
set_option maxRecDepth 100000 in
theorem cx115 {g1 c1 g2 g3 g4 g5 : Nat} (hbc1 : 2 ≤ c1) (H : Sx.Own w0 w ((true, g2, (L153 g3)) :: (true, g4, (L140 g5)) :: (true, g3, (L180 g3)) :: (true, g5, L151) :: bs) (⟨true, sL g1 0 2 c1, 217, 2, 2, [iI 0, pT g2 0, iI 1, pT g4 0]⟩ :: rs) K) : Cq 151 #[sL g1 0 2 c1, iI 0, .func (.func 152) #[] #[]] w fun x w' => x = .tuple #[iI 0, bT] ∧ Sx.Own w0 w' ((true, g2, (L153 g3)) :: (true, g4, (L140 g5)) :: (true, g3, (L180 g3)) :: (true, g5, L151) :: bs) (⟨true, sL g1 0 2 c1, 217, 2, 2, [iI 0, pT g2 0, iI 1, pT g4 0]⟩ :: rs) K := by
 refine En Tryz.func151 Tryz.ntmps151 fun A F => ?_
 refine Sp fun _ kk => ?_
 iterate 2 (refine Av F ?_; intro A F)
 refine Nl kk (Sp fun _ kk => Av F fun A F => ?_)
 refine Zv F (d_lenS el_213 F rfl rfl) fun A F => ?_
 refine Av F fun A F => ?_
 refine Nl kk (Sp fun _ kk => ?_)
 iterate 3 (refine Av F ?_; intro A F)
 refine Nl kk (Sx.seq fun K4 hK4 => wp_block (wp_loop_rounds 40 ?_))
 try dsimp only [Exit.then, Exit.inBlock, Exit.jump, Exit.noGoto]
 rw [rounds_succ]
 refine Sx.seq fun K5 hK5 => Sp fun _ kk => ?_
 iterate 3 (refine Av F ?_; intro A F)
 refine Nl kk (condT F rfl (wp_skip (hK5 _ _ (wp_block (Sp fun _ kk => ?_)))))
 iterate 2 (refine Av F ?_; intro A F)
 refine Zn (iI 2) F fun A F => ?_
 refine Zv F (d_conv (v := iU 2) F rfl rfl (by kernel_rfl)) fun A F => ?_
 refine Zn (iU 1) F fun A F => ?_
 refine Zv F (d_conv (v := iI 1) F rfl rfl (by kernel_rfl)) fun A F => ?_
 refine Av F fun A F => ?_
 refine Nl kk (Sp fun _ kk => ?_)
 iterate 3 (refine Av F ?_; intro A F)
 refine Zv F (d_ixZ (k := 1) (g := g1) (off := 0) (z := 2) el_213 F rfl rfl rfl rfl rfl (by omega)) fun A F => ?_
 refine Zv F (Lr 0 [iI 1, pT g4 0] rw_217 F (H.rowBox (i := 0) rfl)) fun A F => ?_
 refine Av F fun A F => ?_
 have H := H.pickN 4 1 [1, 3, 0, 2] [0]
 refine Zx F (d_callCO (fv := []) (vs := [.agg #[iI 1, pT g4 0], iI 0]) (cv := []) if_152 F rfl rfl rfl (cx91 H)) ?_
 rintro _ w ⟨rfl, H⟩ A F
 refine Av F fun A F => ?_
 refine Nl kk (condF F rfl (Sx.plain ?_))
 iterate 2 (refine Av F ?_; intro A F)
 refine Sx.nil ?_
 try dsimp only [Exit.then, Exit.inBlock, Exit.jump, Exit.noGoto]
 rw [rounds_succ]
 refine Sx.seq fun K9 hK9 => Sp fun _ kk => ?_
 iterate 3 (refine Av F ?_; intro A F)
 refine Nl kk (condT F rfl (wp_skip (hK9 _ _ (wp_block (Sp fun _ kk => ?_)))))
 iterate 2 (refine Av F ?_; intro A F)
 refine Zn (iI 1) F fun A F => ?_
 refine Zv F (d_conv (v := iU 1) F rfl rfl (by kernel_rfl)) fun A F => ?_
 refine Zn (iU 0) F fun A F => ?_
 refine Zv F (d_conv (v := iI 0) F rfl rfl (by kernel_rfl)) fun A F => ?_
 refine Av F fun A F => ?_
 refine Nl kk (Sp fun _ kk => ?_)
 iterate 3 (refine Av F ?_; intro A F)
 refine Zv F (d_ixZ (k := 0) (g := g1) (off := 0) (z := 2) el_213 F rfl rfl rfl rfl rfl (by omega)) fun A F => ?_
 refine Zv F (Lr 0 [iI 0, pT g2 0] rw_217 F (H.rowBox (i := 0) rfl)) fun A F => ?_
 refine Av F fun A F => ?_
 have H := H.pickN 4 1 [2, 3, 0, 1] [0]
 refine Zx F (d_callCO (fv := []) (vs := [.agg #[iI 0, pT g2 0], iI 0]) (cv := []) if_152 F rfl rfl rfl (cx114 H)) ?_
 rintro _ w ⟨rfl, H⟩ A F
 refine Av F fun A F => ?_
 refine Nl kk (condF F rfl (Sx.plain ?_))
 iterate 2 (refine Av F ?_; intro A F)
 refine Sx.nil ?_
 try dsimp only [Exit.then, Exit.inBlock, Exit.jump, Exit.noGoto]
 rw [rounds_succ]
 refine Sx.seq fun K13 hK13 => Sp fun _ kk => ?_
 iterate 3 (refine Av F ?_; intro A F)
 refine Nl kk (condF F rfl (wp_exit ?_))
 try dsimp only [Exit.then, Exit.jump, Exit.noGoto]
 refine exit_here (hK4 _ _ (Sp fun _ kk => ?_))
 iterate 8 (refine Av F ?_; intro A F)
 refine Zv F (d_ixZ (k := 0) (g := g1) (off := 0) (z := 2) el_213 F rfl rfl rfl rfl rfl (by omega)) fun A F => ?_
 refine Zv F (Lr 0 [iI 0, pT g2 0] rw_217 F (H.rowBox (i := 0) rfl)) fun A F => ?_
 refine Av F fun A F => ?_
 refine Zx F (d_callCO (fv := []) (vs := [.agg #[iI 0, pT g2 0], iI 0]) (cv := []) if_152 F rfl rfl rfl (cx114 H)) ?_
 rintro _ w ⟨rfl, H⟩ A F
 iterate 4 (refine Av F ?_; intro A F)
 refine Nl kk (Wr (ret2 F Tryz.results151 (res_tmp F rfl) (res_tmp F rfl) ?_))
 exact ⟨_, rfl, rfl, H.pickN 4 1 [0, 2, 1, 3] [0]⟩
set_option maxRecDepth 100000 in
theorem cx116 {g1 g2 c1 g3 g4 g5 g6 : Nat} (hbc1 : 2 ≤ c1) (H : Sx.Own w0 w ((true, g1, [sL g2 0 2 c1, iI 2]) :: (true, g3, (L153 g4)) :: (true, g5, (L140 g6)) :: (true, g4, (L180 g4)) :: (true, g6, L151) :: bs) (⟨true, sL g2 0 2 c1, 217, 2, 2, [iI 0, pT g3 0, iI 1, pT g5 0]⟩ :: rs) K) : Cq 123 #[pT g1 0, iI 0] w fun x w' => x = .tuple #[iI 0, bT] ∧ Sx.Own w0 w' ((true, g1, [sL g2 0 2 c1, iI 2]) :: (true, g3, (L153 g4)) :: (true, g5, (L140 g6)) :: (true, g4, (L180 g4)) :: (true, g6, L151) :: bs) (⟨true, sL g2 0 2 c1, 217, 2, 2, [iI 0, pT g3 0, iI 1, pT g5 0]⟩ :: rs) K := by
 refine En Tryz.func123 Tryz.ntmps123 fun A F => ?_
 refine Sp fun _ kk => ?_
 iterate 2 (refine Av F ?_; intro A F)
 refine Nl kk (Sp fun _ kk => ?_)
 iterate 5 (refine Av F ?_; intro A F)
 have H := H.pickN 5 1 [1, 2, 3, 4, 0] [0]
 refine Zx F (Do if_151 F (cx115 (by omega) H)) ?_
 rintro _ w ⟨rfl, H⟩ A F
 iterate 4 (refine Av F ?_; intro A F)
 refine Nl kk (Wr (ret2 F Tryz.results123 (res_tmp F rfl) (res_tmp F rfl) ?_))
 exact ⟨_, rfl, rfl, H.pickN 5 1 [4, 0, 1, 2, 3] [0]⟩
set_option maxRecDepth 100000 in
theorem cx117 {g1 g2 c1 g3 g4 g5 g6 : Nat} (hbc1 : 2 ≤ c1) (H : Sx.Own w0 w ((true, g1, [sL g2 0 2 c1, iI 2]) :: (true, g3, (L153 g4)) :: (true, g5, (L140 g6)) :: (true, g4, (L180 g4)) :: (true, g6, L151) :: bs) (⟨true, sL g2 0 2 c1, 217, 2, 2, [iI 0, pT g3 0, iI 1, pT g5 0]⟩ :: rs) K) : Cq 83 #[pT g1 0, iI 0] w fun x w' => x = .tuple #[pT g3 0, bT] ∧ Sx.Own w0 w' ((true, g1, [sL g2 0 2 c1, iI 2]) :: (true, g3, (L153 g4)) :: (true, g5, (L140 g6)) :: (true, g4, (L180 g4)) :: (true, g6, L151) :: bs) (⟨true, sL g2 0 2 c1, 217, 2, 2, [iI 0, pT g3 0, iI 1, pT g5 0]⟩ :: rs) K := by
 refine En Tryz.func83 Tryz.ntmps83 fun A F => ?_
 refine Sp fun _ kk => ?_
 iterate 2 (refine Av F ?_; intro A F)
 refine Nl kk (Sp fun _ kk => ?_)
 iterate 2 (refine Av F ?_; intro A F)
 refine Zx F (Do if_123 F (cx116 (by omega) H)) ?_
 rintro _ w ⟨rfl, H⟩ A F
 iterate 5 (refine Av F ?_; intro A F)
 refine Nl kk (Sx.seq fun K3 hK3 => Sp fun _ kk => Av F fun A F => ?_)
 refine Zv F (d_un (v := bF) F rfl rfl rfl) fun A F => ?_
 refine Nl kk (condF F rfl (wp_skip (hK3 _ _ (Sp fun _ kk => ?_))))
 iterate 5 (refine Av F ?_; intro A F)
 refine Zv F (d_ixZ (k := 0) (g := g2) (off := 0) (z := 2) el_213 F rfl rfl rfl rfl rfl (by omega)) fun A F => ?_
 refine Av F fun A F => ?_
 refine Zv F (Ld 0 one_161 F (H.rowBox (i := 0) rfl)) fun A F => ?_
 iterate 2 (refine Av F ?_; intro A F)
 refine Nl kk (Wr (ret2 F Tryz.results83 (res_tmp F rfl) (res_tmp F rfl) ?_))
 exact ⟨_, rfl, rfl, H.pickN 5 1 [0, 1, 2, 3, 4] [0]⟩
set_option maxRecDepth 100000 in
theorem cx118 {g1 : Nat}  (H : Sx.Own w0 w ((true, g1, (L180 g1)) :: bs) (rs) K) : Cq 124 #[pT g1 0] w fun x w' => x = .agg #[iU 0, iU 1] ∧ Sx.Own w0 w' ((true, g1, (L180 g1)) :: bs) (rs) K := by
 refine En Tryz.func124 Tryz.ntmps124 fun A F => ?_
 refine Sp fun _ kk => Zb F (d_alloc H rfl [iU 0, iU 0] zero_26) fun g2 A w F H => ?_
 refine Nl kk (Sp fun _ kk => ?_)
 iterate 4 (refine Av F ?_; intro A F)
 refine Zs 0 [iU 0, iU 1] sz_26 F H fun A w F H => ?_
 refine Nl kk (Wr (ret1 F Tryz.results124 (res_row (i := 0) (xs := [iU 0, iU 1]) rw_26 F H rfl rfl rfl rfl) ?_))
 exact ⟨_, rfl, rfl, H.pickN 2 0 [1] []⟩
end
end Go.Proofs.YteecadoakmdibaaGreat
