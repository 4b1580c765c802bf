/- What the proof of TopBounded leans on: part 8. -/
import Derived.Test.YteecadoakmdibaaGreatQ2
import Derived.Test.YteecadoakmdibaaGreatQ5
import Derived.Test.YteecadoakmdibaaGreatQ6
import Derived.Test.YteecadoakmdibaaGreatQ7
set_option maxRecDepth 100000
set_option maxHeartbeats 4000000
namespace Go.Proofs.YteecadoakmdibaaGreat
open Go Go.RowKit
section
open Sx
variable {w0 w : World} {bs : List Sx.Bx} {rs : List Sx.Rx} {K : Nat → Option Obj} {g1 g2 g3 g4 g5 g6 g7 g8 g9 g10 g11 g12 g13 g14 g15 g16 g17 g18 g19 g20 g21 g22 g23 g24 c1 c2 c3 c4 c5 c6 c7 c8 c9 : Nat} {v1 v2 v3 v4 v5 v6 v7 v8 v9 : Value} {n b : BitVec 64} {at' : BitVec 128} {kd lf : BitVec 8}
instance fa_208_0 : Inhabited (Sx.FaC Tryz.prog 208 0) := ⟨⟨0, fun _ _ _ => by kernel_rfl⟩⟩
instance fa_208_1 : Inhabited (Sx.FaC Tryz.prog 208 1) := ⟨⟨1, fun _ _ _ => by kernel_rfl⟩⟩
abbrev L69 : List Value := [iI 0, .nilFunc, iI 0, .nilFunc, iI 0, .nilFunc, iI 0, .nilFunc]
theorem zero_209 : Sx.zeroIs Tryz.prog 209 L69 := ⟨.agg #[iI 0, .nilFunc, iI 0, .nilFunc, iI 0, .nilFunc, iI 0, .nilFunc], rfl, fun _ => by kernel_rfl⟩
theorem zero_208 : Sx.zeroIs Tryz.prog 208 [iI 0, .nilFunc] := ⟨.agg #[iI 0, .nilFunc], rfl, fun _ => by kernel_rfl⟩
abbrev L70 : Value := .agg #[iI 1, .func (.func 145) #[] #[], iI 2, .func (.func 146) #[] #[], iI 3, .func (.func 147) #[] #[], iI 4, .func (.func 148) #[] #[]]
abbrev L71 : Value := .agg #[iI 1, .func (.func 145) #[] #[]]
abbrev L72 : Value := .agg #[iI 2, .func (.func 146) #[] #[]]
abbrev L73 : Value := .agg #[iI 3, .func (.func 147) #[] #[]]
abbrev L74 : Value := .agg #[iI 4, .func (.func 148) #[] #[]]
abbrev L75 : List Value := [iI 1, .func (.func 145) #[] #[], iI 2, .func (.func 146) #[] #[], iI 3, .func (.func 147) #[] #[], iI 4, .func (.func 148) #[] #[]]
theorem cx1001 (H : Sx.Own w0 w bs rs K) : Cr 121 #[] w0 w L70 bs rs K := by
 refine En Tryz.func121 Tryz.ntmps121 fun A F => ?_
 refine Sp fun _ kk => Zb F (d_alloc H rfl L69 zero_209) fun g1 A w F H => ?_
 refine Nl kk (Sp fun _ kk => Zv F (d_build (qs := #[(0, iI 1), (1, .func (.func 145) #[] #[])]) (v := L71) F rfl rfl (by kernel_rfl)) fun A F => ?_)
 refine Zv F (d_build (qs := #[(0, iI 2), (1, .func (.func 146) #[] #[])]) (v := L72) F rfl rfl (by kernel_rfl)) fun A F => ?_
 refine Zv F (d_build (qs := #[(0, iI 3), (1, .func (.func 147) #[] #[])]) (v := L73) F rfl rfl (by kernel_rfl)) fun A F => ?_
 refine Zv F (d_build (qs := #[(0, iI 4), (1, .func (.func 148) #[] #[])]) (v := L74) F rfl rfl (by kernel_rfl)) fun A F => ?_
 refine Zv F (d_build (qs := #[(0, L71), (1, L72), (2, L73), (3, L74)]) (v := L70) F rfl rfl (by kernel_rfl)) fun A F => ?_
 refine Zs 0 L75 sz_209 F H fun A w F H => ?_
 refine Nl kk (Wr (ret1 F Tryz.results121 (res_row (i := 0) (xs := L75) rw_209 F H rfl rfl rfl rfl) ?_))
 exact ⟨_, rfl, rfl, H.pickN 1 0 [] []⟩
abbrev L76 (x0 : BitVec 64) : List Value := [uN (Mx.word x0), uN (Mx.word (Mx.step x0)), uN (Mx.word (Mx.step (Mx.step x0))), uN (Mx.word (Mx.step (Mx.step (Mx.step x0))))]
theorem cx1002 (H : Sx.Own w0 w bs rs K) : Cq 122 #[uN n, iI 4] w fun x w' => ∃ g8 c4 : Nat, 4 ≤ c4 ∧ x = .tuple #[sL g8 0 4 c4, uN (Mx.step (Mx.step (Mx.step (Mx.step n)))), iI 0] ∧ Sx.Own w0 w' (bs) (⟨true, sL g8 0 4 c4, 22, 1, 4, (L76 n)⟩ :: rs) K := by
 refine En Tryz.func122 Tryz.ntmps122 fun A F => ?_
 refine Sp fun _ kk => ?_
 iterate 3 (refine Av F ?_; intro A F)
 refine Nl kk (Sx.seq fun K2 hK2 => Sp fun _ kk => ?_)
 iterate 6 (refine Av F ?_; intro A F)
 refine Nl kk (condF F rfl (wp_skip (hK2 _ _ (Sp fun _ kk => Av F fun A F => ?_))))
 refine Nl kk (Sx.seq fun K5 hK5 => Sp fun _ kk => ?_)
 iterate 2 (refine Av F ?_; intro A F)
 refine Nl kk (wp_block (wp_loop_rounds 40 ?_))
 refine Rs ?_
 refine Sp fun _ kk => Av F fun A F => ?_
 refine Nl kk (Sx.seq fun K8 hK8 => condT F rfl (wp_skip (hK8 _ _ (Sx.seq fun K9 hK9 => wp_block (Sp fun _ kk => ?_)))))
 iterate 2 (refine Av F ?_; intro A F)
 refine Zw F (Dc if_149 F H (mword_c n _)) fun A w F H => ?_
 refine Zg (mk := fun g => sL g 0 1 1) F (d_lit (qs := #[(0, uN (Mx.word n))]) (cs := #[uN (Mx.word n)]) (E := 22) F H rfl rfl (fun _ => by kernel_rfl)) fun g1 A w F H => ?_
 have H := Sx.Own.nilR H 22 1
 refine Zr (mk := fun v => v) F (d_append (i := 0) (j := 0) el_65 F H rfl rfl rfl rfl rfl rfl rfl rfl (by decide) (by decide)) fun v1 A w F H => ?_
 obtain ⟨g2, c1, rfl, hbc1, hdc1⟩ := H.open (i := 0) rfl (by decide)
 refine Av F fun A F => ?_
 refine Nl kk (Sx.plain ?_)
 refine Av F fun A F => ?_
 refine Zv F (d_callq (vs := [uN n]) (v := uN (Mx.step n)) if_150 F rfl rfl (mstep_c n _)) fun A F => ?_
 refine Av F fun A F => ?_
 refine Sx.nil (hK9 _ _ (Sx.plain ?_))
 refine Zn (iI 1) F fun A F => ?_
 refine Av F fun A F => ?_
 refine Sx.nil (Rs ?_)
 refine Sp fun _ kk => Av F fun A F => ?_
 refine Nl kk (Sx.seq fun K12 hK12 => condT F rfl (wp_skip (hK12 _ _ (Sx.seq fun K13 hK13 => wp_block (Sp fun _ kk => ?_)))))
 iterate 2 (refine Av F ?_; intro A F)
 refine Zw F (Dc if_149 F H (mword_c (Mx.step n) _)) fun A w F H => ?_
 refine Zg (mk := fun g => sL g 0 1 1) F (d_lit (qs := #[(0, uN (Mx.word (Mx.step n)))]) (cs := #[uN (Mx.word (Mx.step n))]) (E := 22) F H rfl rfl (fun _ => by kernel_rfl)) fun g3 A w F H => ?_
 refine Zr (mk := fun v => v) F (d_append (i := 0) (j := 0) el_65 F H rfl rfl rfl rfl rfl rfl rfl rfl (by decide) (by decide)) fun v2 A w F H => ?_
 obtain ⟨g4, c2, rfl, hbc2, hdc2⟩ := H.open (i := 0) rfl (by decide)
 refine Av F fun A F => ?_
 refine Nl kk (Sx.plain ?_)
 refine Av F fun A F => ?_
 refine Zv F (d_callq (vs := [uN (Mx.step n)]) (v := uN (Mx.step (Mx.step n))) if_150 F rfl rfl (mstep_c (Mx.step n) _)) fun A F => ?_
 refine Av F fun A F => ?_
 refine Sx.nil (hK13 _ _ (Sx.plain ?_))
 refine Zn (iI 2) F fun A F => ?_
 refine Av F fun A F => ?_
 refine Sx.nil (Rs ?_)
 refine Sp fun _ kk => Av F fun A F => ?_
 refine Nl kk (Sx.seq fun K16 hK16 => condT F rfl (wp_skip (hK16 _ _ (Sx.seq fun K17 hK17 => wp_block (Sp fun _ kk => ?_)))))
 iterate 2 (refine Av F ?_; intro A F)
 refine Zw F (Dc if_149 F H (mword_c (Mx.step (Mx.step n)) _)) fun A w F H => ?_
 refine Zg (mk := fun g => sL g 0 1 1) F (d_lit (qs := #[(0, uN (Mx.word (Mx.step (Mx.step n))))]) (cs := #[uN (Mx.word (Mx.step (Mx.step n)))]) (E := 22) F H rfl rfl (fun _ => by kernel_rfl)) fun g5 A w F H => ?_
 refine Zr (mk := fun v => v) F (d_append (i := 0) (j := 0) el_65 F H rfl rfl rfl rfl rfl rfl rfl rfl (by decide) (by decide)) fun v3 A w F H => ?_
 obtain ⟨g6, c3, rfl, hbc3, hdc3⟩ := H.open (i := 0) rfl (by decide)
 refine Av F fun A F => ?_
 refine Nl kk (Sx.plain ?_)
 refine Av F fun A F => ?_
 refine Zv F (d_callq (vs := [uN (Mx.step (Mx.step n))]) (v := uN (Mx.step (Mx.step (Mx.step n)))) if_150 F rfl rfl (mstep_c (Mx.step (Mx.step n)) _)) fun A F => ?_
 refine Av F fun A F => ?_
 refine Sx.nil (hK17 _ _ (Sx.plain ?_))
 refine Zn (iI 3) F fun A F => ?_
 refine Av F fun A F => ?_
 refine Sx.nil (Rs ?_)
 refine Sp fun _ kk => Av F fun A F => ?_
 refine Nl kk (Sx.seq fun K20 hK20 => condT F rfl (wp_skip (hK20 _ _ (Sx.seq fun K21 hK21 => wp_block (Sp fun _ kk => ?_)))))
 iterate 2 (refine Av F ?_; intro A F)
 refine Zw F (Dc if_149 F H (mword_c (Mx.step (Mx.step (Mx.step n))) _)) fun A w F H => ?_
 refine Zg (mk := fun g => sL g 0 1 1) F (d_lit (qs := #[(0, uN (Mx.word (Mx.step (Mx.step (Mx.step n)))))]) (cs := #[uN (Mx.word (Mx.step (Mx.step (Mx.step n))))]) (E := 22) F H rfl rfl (fun _ => by kernel_rfl)) fun g7 A w F H => ?_
 refine Zr (mk := fun v => v) F (d_append (i := 0) (j := 0) el_65 F H rfl rfl rfl rfl rfl rfl rfl rfl (by decide) (by decide)) fun v4 A w F H => ?_
 obtain ⟨g8, c4, rfl, hbc4, hdc4⟩ := H.open (i := 0) rfl (by decide)
 refine Av F fun A F => ?_
 refine Nl kk (Sx.plain ?_)
 refine Av F fun A F => ?_
 refine Zv F (d_callq (vs := [uN (Mx.step (Mx.step (Mx.step n)))]) (v := uN (Mx.step (Mx.step (Mx.step (Mx.step n))))) if_150 F rfl rfl (mstep_c (Mx.step (Mx.step (Mx.step n))) _)) fun A F => ?_
 refine Av F fun A F => ?_
 refine Sx.nil (hK21 _ _ (Sx.plain ?_))
 refine Zn (iI 4) F fun A F => ?_
 refine Av F fun A F => ?_
 refine Sx.nil (Rs ?_)
 refine Sp fun _ kk => Av F fun A F => ?_
 refine Nl kk (Sx.seq fun K24 hK24 => condF F rfl (wp_exit ?_))
 try dsimp only [Exit.then, Exit.jump, Exit.noGoto]
 refine exit_here (hK5 _ _ (Sp fun _ kk => ?_))
 iterate 5 (refine Av F ?_; intro A F)
 refine Nl kk (Wr (ret3 F Tryz.results122 (res_tmp F rfl) (res_tmp F rfl) (res_tmp F rfl) ?_))
 exact ⟨_, rfl, g8, c4, (by omega), rfl, H.pickN 4 1 [] [0]⟩
abbrev L77 (x0 : BitVec 64) : Value := .agg #[uN (Mx.word x0), uN (Mx.word (Mx.step x0)), uN (Mx.word (Mx.step (Mx.step x0))), uN (Mx.word (Mx.step (Mx.step (Mx.step x0))))]
abbrev L78 (x0 : BitVec 64) : Value := .agg #[iI 0, uN x0, iU 0, iU 0, iU 0, iU 0, iU 0, iU 0, iU 0, iU 0, iU 0, iU 0, iW 0, iW 0, bF]
abbrev L79 : List Value := [iI 0, iU 0, iU 0, iU 0, iU 0, iU 0, iU 0, iU 0, iU 0, iU 0, iU 0, iU 0, iW 0, iW 0, bF]
abbrev L80 (x0 : BitVec 64) : List Value := [iI 0, uN x0, iU 0, iU 0, iU 0, iU 0, iU 0, iU 0, iU 0, iU 0, iU 0, iU 0, iW 0, iW 0, bF]
theorem cx1003 (H : Sx.Own w0 w bs rs K) : Cr 145 #[uN n, (L77 n)] w0 w (L78 n) bs rs K := by
 refine En Tryz.func145 Tryz.ntmps145 fun A F => ?_
 refine Sp fun _ kk => Zb F (d_box F H rfl rfl (L76 n) rfl) fun g1 A w F H => ?_
 refine Zb F (d_alloc H rfl L79 zero_35) fun g2 A w F H => ?_
 refine Nl kk (Sp fun _ kk => Av F fun A F => ?_)
 refine Zv F (d_build (qs := #[(1, uN n)]) (v := (L78 n)) F rfl rfl (by kernel_rfl)) fun A F => ?_
 refine Zs 0 (L80 n) sz_35 F H fun A w F H => ?_
 refine Nl kk (Wr (ret1 F Tryz.results145 (res_row (i := 0) (xs := (L80 n)) rw_35 F H rfl rfl rfl rfl) ?_))
 exact ⟨_, rfl, rfl, H.pickN 2 0 [] []⟩
abbrev L81 (x0 : BitVec 64) : List Value := [uN x0, .agg #[uN (Mx.word x0), uN (Mx.word (Mx.step x0)), uN (Mx.word (Mx.step (Mx.step x0))), uN (Mx.word (Mx.step (Mx.step (Mx.step x0))))]]
abbrev L82 (x0 : BitVec 64) : List Value := [iI 1, uN x0, iU 0, iU 0, iU 0, iU 0, iU 0, iU 0, iU 0, iU 0, iU 0, iU 0, iW 0, iW 0, bF]
theorem cx1004 (H : Sx.Own w0 w bs rs K) : Cr 81 #[iI 1, uN n] w0 w (.tuple #[.agg #[iI 1, uN n, iU 0, iU 0, iU 0, iU 0, iU 0, iU 0, iU 0, iU 0, iU 0, iU 0, iW 0, iW 0, bF], iI 0]) bs rs K := by
 refine En Tryz.func81 Tryz.ntmps81 fun A F => ?_
 refine Sp fun _ kk => Zb F (d_alloc H rfl L79 zero_35) fun g1 A w F H => ?_
 refine Av F fun A F => ?_
 refine Nl kk (Sx.seq fun K2 hK2 => Sp fun _ kk => Zx F (Do if_121 F (cx1001 H)) ?_)
 rintro _ w ⟨rfl, H⟩ A F
 refine Av F fun A F => ?_
 refine Nl kk (wp_block (wp_loop_rounds 40 ?_))
 refine Rs ?_
 refine Sp fun _ kk => Av F fun A F => ?_
 refine Nl kk (Sx.seq fun K5 hK5 => condT F rfl (wp_skip (hK5 _ _ (Sx.seq fun K6 hK6 => wp_block (Sp fun _ kk => Zv F (d_index (v := L71) F rfl rfl rfl (by kernel_rfl)) fun A F => ?_)))))
 refine Zb F (d_alloc H rfl [iI 0, .nilFunc] zero_208) fun g2 A w F H => ?_
 refine Zs 0 [iI 1, .func (.func 145) #[] #[]] sz_208 F H fun A w F H => ?_
 refine Nl kk (Sx.seq fun K8 hK8 => Sp fun _ kk => ?_)
 iterate 4 (refine Av F ?_; intro A F)
 refine Nl kk (condF F rfl (wp_skip (hK8 _ _ (Sp fun _ kk => Zb F (d_alloc H rfl [iU 0, iU 0, iU 0, iU 0] zero_23) fun g3 A w F H => ?_))))
 refine Nl kk (Sp fun _ kk => Av F fun A F => ?_)
 refine Zx F (Do if_122 F (cx1002 H)) ?_
 rintro _ w ⟨g4, c1, hbc1, rfl, H⟩ A F
 iterate 7 (refine Av F ?_; intro A F)
 refine Nl kk (Sp fun _ kk => Zv F (d_sliceG (v := sL g3 0 4 4) (lv := none) (hv := none) (mv := none) F rfl rfl rfl rfl rfl (by kernel_rfl)) fun A F => ?_)
 refine Av F fun A F => ?_
 refine Zx F (d_copyB (i := 0) (cs := (L76 n)) (us := (L76 n)) (m := 4) (el_65).1 (by kernel_rfl) F H rfl rfl rfl rfl (by decide) (fun j u hu => Sx.box_part (news := (L76 n)) ((H.rowBox (i := 0) rfl).box 0 g4 _ rfl).1 rfl j u hu) rfl rfl (Nat.le_of_ble_eq_true rfl) rfl) ?_
 rintro _ w ⟨rfl, H⟩ A F
 have H : Sx.Own w0 w (Bt g3 (L76 n) :: Bt g2 [iI 1, .func (.func 145) #[] #[]] :: Bt g1 L79 :: bs) (⟨true, sL g4 0 4 c1, 22, 1, 4, (L76 n)⟩ :: rs) K := H
 refine Nl kk (Sp fun _ kk => ?_)
 iterate 4 (refine Av F ?_; intro A F)
 refine Zx F (d_callCO (fv := []) (vs := (L81 n)) (cv := []) if_145 F rfl rfl rfl (cx1003 H)) ?_
 rintro _ w ⟨rfl, H⟩ A F
 refine Zb F (d_alloc H rfl L79 zero_35) fun g5 A w F H => ?_
 refine Zs 0 (L80 n) sz_35 F H fun A w F H => ?_
 refine Nl kk (Sp fun _ kk => ?_)
 iterate 2 (refine Av F ?_; intro A F)
 refine Zs 0 (L82 n) sz_3 F H fun A w F H => ?_
 refine Nl kk (Sp fun _ kk => Av F fun A F => ?_)
 refine Zs 3 (L82 n) sz_35 F H fun A w F H => ?_
 refine Av F fun A F => ?_
 refine Nl kk (Wr (ret2 F Tryz.results81 (res_row (i := 3) (xs := (L82 n)) rw_35 F H rfl rfl rfl rfl) (res_tmp F rfl) ?_))
 exact ⟨_, rfl, rfl, H.pickN 4 1 [] []⟩
abbrev L83 (x0 : BitVec 64) : Value := .agg #[iI 0, iU 0, uN (Mx.word x0), uN (Mx.word (Mx.step x0)), uN (Mx.word (Mx.step (Mx.step x0))), uN (Mx.word (Mx.step (Mx.step (Mx.step x0)))), iU 0, iU 0, iU 0, iU 0, iU 0, iU 0, iW 0, iW 0, bF]
abbrev L84 (x0 : BitVec 64) : List Value := [iI 0, iU 0, uN (Mx.word x0), uN (Mx.word (Mx.step x0)), uN (Mx.word (Mx.step (Mx.step x0))), uN (Mx.word (Mx.step (Mx.step (Mx.step x0)))), iU 0, iU 0, iU 0, iU 0, iU 0, iU 0, iW 0, iW 0, bF]
theorem cx1005 (H : Sx.Own w0 w bs rs K) : Cr 146 #[uN n, (L77 n)] w0 w (L83 n) bs rs K := by
 refine En Tryz.func146 Tryz.ntmps146 fun A F => ?_
 refine Sp fun _ kk => Zb F (d_box F H rfl rfl (L76 n) rfl) fun g1 A w F H => ?_
 refine Zb F (d_alloc H rfl L79 zero_35) fun g2 A w F H => ?_
 refine Nl kk (Sp fun _ kk => Av F fun A F => ?_)
 refine Zv F (d_build (qs := #[(2, (L77 n))]) (v := (L83 n)) F rfl rfl (by kernel_rfl)) fun A F => ?_
 refine Zs 0 (L84 n) sz_35 F H fun A w F H => ?_
 refine Nl kk (Wr (ret1 F Tryz.results146 (res_row (i := 0) (xs := (L84 n)) rw_35 F H rfl rfl rfl rfl) ?_))
 exact ⟨_, rfl, rfl, H.pickN 2 0 [] []⟩
abbrev L85 (x0 : BitVec 64) : List Value := [iI 2, iU 0, uN (Mx.word x0), uN (Mx.word (Mx.step x0)), uN (Mx.word (Mx.step (Mx.step x0))), uN (Mx.word (Mx.step (Mx.step (Mx.step x0)))), iU 0, iU 0, iU 0, iU 0, iU 0, iU 0, iW 0, iW 0, bF]
theorem cx1006 (H : Sx.Own w0 w bs rs K) : Cr 81 #[iI 2, uN n] w0 w (.tuple #[.agg #[iI 2, iU 0, uN (Mx.word n), uN (Mx.word (Mx.step n)), uN (Mx.word (Mx.step (Mx.step n))), uN (Mx.word (Mx.step (Mx.step (Mx.step n)))), iU 0, iU 0, iU 0, iU 0, iU 0, iU 0, iW 0, iW 0, bF], iI 0]) bs rs K := by
 refine En Tryz.func81 Tryz.ntmps81 fun A F => ?_
 refine Sp fun _ kk => Zb F (d_alloc H rfl L79 zero_35) fun g1 A w F H => ?_
 refine Av F fun A F => ?_
 refine Nl kk (Sx.seq fun K2 hK2 => Sp fun _ kk => Zx F (Do if_121 F (cx1001 H)) ?_)
 rintro _ w ⟨rfl, H⟩ A F
 refine Av F fun A F => ?_
 refine Nl kk (wp_block (wp_loop_rounds 40 ?_))
 refine Rs ?_
 refine Sp fun _ kk => Av F fun A F => ?_
 refine Nl kk (Sx.seq fun K5 hK5 => condT F rfl (wp_skip (hK5 _ _ (Sx.seq fun K6 hK6 => wp_block (Sp fun _ kk => Zv F (d_index (v := L71) F rfl rfl rfl (by kernel_rfl)) fun A F => ?_)))))
 refine Zb F (d_alloc H rfl [iI 0, .nilFunc] zero_208) fun g2 A w F H => ?_
 refine Zs 0 [iI 1, .func (.func 145) #[] #[]] sz_208 F H fun A w F H => ?_
 refine Nl kk (Sx.seq fun K8 hK8 => Sp fun _ kk => ?_)
 iterate 4 (refine Av F ?_; intro A F)
 refine Nl kk (condT F rfl (wp_exit ?_))
 try dsimp only [Exit.then, Exit.jump, Exit.noGoto]
 refine exit_here (hK6 _ _ (Sx.plain ?_))
 refine Zn (iI 1) F fun A F => ?_
 refine Av F fun A F => ?_
 refine Sx.nil (Rs ?_)
 refine Sp fun _ kk => Av F fun A F => ?_
 refine Nl kk (Sx.seq fun K11 hK11 => condT F rfl (wp_skip (hK11 _ _ (Sx.seq fun K12 hK12 => wp_block (Sp fun _ kk => Zv F (d_index (v := L72) F rfl rfl rfl (by kernel_rfl)) fun A F => ?_)))))
 refine Zb F (d_alloc H rfl [iI 0, .nilFunc] zero_208) fun g3 A w F H => ?_
 refine Zs 0 [iI 2, .func (.func 146) #[] #[]] sz_208 F H fun A w F H => ?_
 refine Nl kk (Sx.seq fun K14 hK14 => Sp fun _ kk => ?_)
 iterate 4 (refine Av F ?_; intro A F)
 refine Nl kk (condF F rfl (wp_skip (hK14 _ _ (Sp fun _ kk => Zb F (d_alloc H rfl [iU 0, iU 0, iU 0, iU 0] zero_23) fun g4 A w F H => ?_))))
 refine Nl kk (Sp fun _ kk => Av F fun A F => ?_)
 refine Zx F (Do if_122 F (cx1002 H)) ?_
 rintro _ w ⟨g5, c1, hbc1, rfl, H⟩ A F
 iterate 7 (refine Av F ?_; intro A F)
 refine Nl kk (Sp fun _ kk => Zv F (d_sliceG (v := sL g4 0 4 4) (lv := none) (hv := none) (mv := none) F rfl rfl rfl rfl rfl (by kernel_rfl)) fun A F => ?_)
 refine Av F fun A F => ?_
 refine Zx F (d_copyB (i := 0) (cs := (L76 n)) (us := (L76 n)) (m := 4) (el_65).1 (by kernel_rfl) F H rfl rfl rfl rfl (by decide) (fun j u hu => Sx.box_part (news := (L76 n)) ((H.rowBox (i := 0) rfl).box 0 g5 _ rfl).1 rfl j u hu) rfl rfl (Nat.le_of_ble_eq_true rfl) rfl) ?_
 rintro _ w ⟨rfl, H⟩ A F
 have H : Sx.Own w0 w (Bt g4 (L76 n) :: Bt g3 [iI 2, .func (.func 146) #[] #[]] :: Bt g2 [iI 1, .func (.func 145) #[] #[]] :: Bt g1 L79 :: bs) (⟨true, sL g5 0 4 c1, 22, 1, 4, (L76 n)⟩ :: rs) K := H
 refine Nl kk (Sp fun _ kk => ?_)
 iterate 4 (refine Av F ?_; intro A F)
 refine Zx F (d_callCO (fv := []) (vs := (L81 n)) (cv := []) if_146 F rfl rfl rfl (cx1005 H)) ?_
 rintro _ w ⟨rfl, H⟩ A F
 refine Zb F (d_alloc H rfl L79 zero_35) fun g6 A w F H => ?_
 refine Zs 0 (L84 n) sz_35 F H fun A w F H => ?_
 refine Nl kk (Sp fun _ kk => ?_)
 iterate 2 (refine Av F ?_; intro A F)
 refine Zs 0 (L85 n) sz_3 F H fun A w F H => ?_
 refine Nl kk (Sp fun _ kk => Av F fun A F => ?_)
 refine Zs 4 (L85 n) sz_35 F H fun A w F H => ?_
 refine Av F fun A F => ?_
 refine Nl kk (Wr (ret2 F Tryz.results81 (res_row (i := 4) (xs := (L85 n)) rw_35 F H rfl rfl rfl rfl) (res_tmp F rfl) ?_))
 exact ⟨_, rfl, rfl, H.pickN 5 1 [] []⟩
abbrev L86 (x0 : BitVec 64) : Value := .agg #[iI 0, iU 0, iU 0, iU 0, iU 0, iU 0, uN (Mx.word x0), uN (Mx.word (Mx.step x0)), uN (Mx.word (Mx.step (Mx.step x0))), uN ((Mx.word (Mx.step (Mx.step (Mx.step x0)))) ||| 1#64), iU 0, iU 0, iW 0, iW 0, bF]
abbrev L87 (x0 : BitVec 64) : Value := .agg #[uN (Mx.word (Mx.step (Mx.step x0))), uN ((Mx.word (Mx.step (Mx.step (Mx.step x0)))) ||| 1#64)]
abbrev L88 (x0 : BitVec 64) : Value := .agg #[uN (Mx.word x0), uN (Mx.word (Mx.step x0)), uN (Mx.word (Mx.step (Mx.step x0))), uN ((Mx.word (Mx.step (Mx.step (Mx.step x0)))) ||| 1#64)]
abbrev L89 (x0 : BitVec 64) : List Value := [iI 0, iU 0, iU 0, iU 0, iU 0, iU 0, uN (Mx.word x0), uN (Mx.word (Mx.step x0)), uN (Mx.word (Mx.step (Mx.step x0))), uN ((Mx.word (Mx.step (Mx.step (Mx.step x0)))) ||| 1#64), iU 0, iU 0, iW 0, iW 0, bF]
theorem cx1007 (H : Sx.Own w0 w bs rs K) : Cr 147 #[uN n, (L77 n)] w0 w (L86 n) bs rs K := by
 refine En Tryz.func147 Tryz.ntmps147 fun A F => ?_
 refine Sp fun _ kk => Zb F (d_box F H rfl rfl (L76 n) rfl) fun g1 A w F H => ?_
 refine Zb F (d_alloc H rfl L79 zero_35) fun g2 A w F H => ?_
 refine Nl kk (Sp fun _ kk => Zv F (d_iaddr (v := pT g1 0) F rfl rfl rfl (by kernel_rfl)) fun A F => ?_)
 refine Av F fun A F => ?_
 refine Zv F (d_iaddr (v := pT g1 1) F rfl rfl rfl (by kernel_rfl)) fun A F => ?_
 refine Av F fun A F => ?_
 refine Zv F (d_build (qs := #[(0, uN (Mx.word n)), (1, uN (Mx.word (Mx.step n)))]) (v := .agg #[uN (Mx.word n), uN (Mx.word (Mx.step n))]) F rfl rfl (by kernel_rfl)) fun A F => ?_
 refine Zv F (d_iaddr (v := pT g1 2) F rfl rfl rfl (by kernel_rfl)) fun A F => ?_
 refine Av F fun A F => ?_
 refine Zv F (d_iaddr (v := pT g1 3) F rfl rfl rfl (by kernel_rfl)) fun A F => ?_
 refine Av F fun A F => ?_
 refine Zv F (Bn (uN ((Mx.word (Mx.step (Mx.step (Mx.step n)))) ||| 1#64)) F rfl rfl rfl (i_or64 (Mx.word (Mx.step (Mx.step (Mx.step n)))) 1#64)) fun A F => ?_
 refine Zv F (d_build (qs := #[(0, uN (Mx.word (Mx.step (Mx.step n)))), (1, uN ((Mx.word (Mx.step (Mx.step (Mx.step n)))) ||| 1#64))]) (v := (L87 n)) F rfl rfl (by kernel_rfl)) fun A F => ?_
 refine Zv F (d_build (qs := #[(0, .agg #[uN (Mx.word n), uN (Mx.word (Mx.step n))]), (1, (L87 n))]) (v := (L88 n)) F rfl rfl (by kernel_rfl)) fun A F => ?_
 refine Zv F (d_build (qs := #[(3, (L88 n))]) (v := (L86 n)) F rfl rfl (by kernel_rfl)) fun A F => ?_
 refine Zs 0 (L89 n) sz_35 F H fun A w F H => ?_
 refine Nl kk (Wr (ret1 F Tryz.results147 (res_row (i := 0) (xs := (L89 n)) rw_35 F H rfl rfl rfl rfl) ?_))
 exact ⟨_, rfl, rfl, H.pickN 2 0 [] []⟩
abbrev L90 (x0 : BitVec 64) : List Value := [iI 3, iU 0, iU 0, iU 0, iU 0, iU 0, uN (Mx.word x0), uN (Mx.word (Mx.step x0)), uN (Mx.word (Mx.step (Mx.step x0))), uN ((Mx.word (Mx.step (Mx.step (Mx.step x0)))) ||| 1#64), iU 0, iU 0, iW 0, iW 0, bF]
theorem cx1008 (H : Sx.Own w0 w bs rs K) : Cr 81 #[iI 3, uN n] w0 w (.tuple #[.agg #[iI 3, iU 0, iU 0, iU 0, iU 0, iU 0, uN (Mx.word n), uN (Mx.word (Mx.step n)), uN (Mx.word (Mx.step (Mx.step n))), uN ((Mx.word (Mx.step (Mx.step (Mx.step n)))) ||| 1#64), iU 0, iU 0, iW 0, iW 0, bF], iI 0]) bs rs K := by
 refine En Tryz.func81 Tryz.ntmps81 fun A F => ?_
 refine Sp fun _ kk => Zb F (d_alloc H rfl L79 zero_35) fun g1 A w F H => ?_
 refine Av F fun A F => ?_
 refine Nl kk (Sx.seq fun K2 hK2 => Sp fun _ kk => Zx F (Do if_121 F (cx1001 H)) ?_)
 rintro _ w ⟨rfl, H⟩ A F
 refine Av F fun A F => ?_
 refine Nl kk (wp_block (wp_loop_rounds 40 ?_))
 refine Rs ?_
 refine Sp fun _ kk => Av F fun A F => ?_
 refine Nl kk (Sx.seq fun K5 hK5 => condT F rfl (wp_skip (hK5 _ _ (Sx.seq fun K6 hK6 => wp_block (Sp fun _ kk => Zv F (d_index (v := L71) F rfl rfl rfl (by kernel_rfl)) fun A F => ?_)))))
 refine Zb F (d_alloc H rfl [iI 0, .nilFunc] zero_208) fun g2 A w F H => ?_
 refine Zs 0 [iI 1, .func (.func 145) #[] #[]] sz_208 F H fun A w F H => ?_
 refine Nl kk (Sx.seq fun K8 hK8 => Sp fun _ kk => ?_)
 iterate 4 (refine Av F ?_; intro A F)
 refine Nl kk (condT F rfl (wp_exit ?_))
 try dsimp only [Exit.then, Exit.jump, Exit.noGoto]
 refine exit_here (hK6 _ _ (Sx.plain ?_))
 refine Zn (iI 1) F fun A F => ?_
 refine Av F fun A F => ?_
 refine Sx.nil (Rs ?_)
 refine Sp fun _ kk => Av F fun A F => ?_
 refine Nl kk (Sx.seq fun K11 hK11 => condT F rfl (wp_skip (hK11 _ _ (Sx.seq fun K12 hK12 => wp_block (Sp fun _ kk => Zv F (d_index (v := L72) F rfl rfl rfl (by kernel_rfl)) fun A F => ?_)))))
 refine Zb F (d_alloc H rfl [iI 0, .nilFunc] zero_208) fun g3 A w F H => ?_
 refine Zs 0 [iI 2, .func (.func 146) #[] #[]] sz_208 F H fun A w F H => ?_
 refine Nl kk (Sx.seq fun K14 hK14 => Sp fun _ kk => ?_)
 iterate 4 (refine Av F ?_; intro A F)
 refine Nl kk (condT F rfl (wp_exit ?_))
 try dsimp only [Exit.then, Exit.jump, Exit.noGoto]
 refine exit_here (hK12 _ _ (Sx.plain ?_))
 refine Zn (iI 2) F fun A F => ?_
 refine Av F fun A F => ?_
 refine Sx.nil (Rs ?_)
 refine Sp fun _ kk => Av F fun A F => ?_
 refine Nl kk (Sx.seq fun K17 hK17 => condT F rfl (wp_skip (hK17 _ _ (Sx.seq fun K18 hK18 => wp_block (Sp fun _ kk => Zv F (d_index (v := L73) F rfl rfl rfl (by kernel_rfl)) fun A F => ?_)))))
 refine Zb F (d_alloc H rfl [iI 0, .nilFunc] zero_208) fun g4 A w F H => ?_
 refine Zs 0 [iI 3, .func (.func 147) #[] #[]] sz_208 F H fun A w F H => ?_
 refine Nl kk (Sx.seq fun K20 hK20 => Sp fun _ kk => ?_)
 iterate 4 (refine Av F ?_; intro A F)
 refine Nl kk (condF F rfl (wp_skip (hK20 _ _ (Sp fun _ kk => Zb F (d_alloc H rfl [iU 0, iU 0, iU 0, iU 0] zero_23) fun g5 A w F H => ?_))))
 refine Nl kk (Sp fun _ kk => Av F fun A F => ?_)
 refine Zx F (Do if_122 F (cx1002 H)) ?_
 rintro _ w ⟨g6, c1, hbc1, rfl, H⟩ A F
 iterate 7 (refine Av F ?_; intro A F)
 refine Nl kk (Sp fun _ kk => Zv F (d_sliceG (v := sL g5 0 4 4) (lv := none) (hv := none) (mv := none) F rfl rfl rfl rfl rfl (by kernel_rfl)) fun A F => ?_)
 refine Av F fun A F => ?_
 refine Zx F (d_copyB (i := 0) (cs := (L76 n)) (us := (L76 n)) (m := 4) (el_65).1 (by kernel_rfl) F H rfl rfl rfl rfl (by decide) (fun j u hu => Sx.box_part (news := (L76 n)) ((H.rowBox (i := 0) rfl).box 0 g6 _ rfl).1 rfl j u hu) rfl rfl (Nat.le_of_ble_eq_true rfl) rfl) ?_
 rintro _ w ⟨rfl, H⟩ A F
 have H : Sx.Own w0 w (Bt g5 (L76 n) :: Bt g4 [iI 3, .func (.func 147) #[] #[]] :: Bt g3 [iI 2, .func (.func 146) #[] #[]] :: Bt g2 [iI 1, .func (.func 145) #[] #[]] :: Bt g1 L79 :: bs) (⟨true, sL g6 0 4 c1, 22, 1, 4, (L76 n)⟩ :: rs) K := H
 refine Nl kk (Sp fun _ kk => ?_)
 iterate 4 (refine Av F ?_; intro A F)
 refine Zx F (d_callCO (fv := []) (vs := (L81 n)) (cv := []) if_147 F rfl rfl rfl (cx1007 H)) ?_
 rintro _ w ⟨rfl, H⟩ A F
 refine Zb F (d_alloc H rfl L79 zero_35) fun g7 A w F H => ?_
 refine Zs 0 (L89 n) sz_35 F H fun A w F H => ?_
 refine Nl kk (Sp fun _ kk => ?_)
 iterate 2 (refine Av F ?_; intro A F)
 refine Zs 0 (L90 n) sz_3 F H fun A w F H => ?_
 refine Nl kk (Sp fun _ kk => Av F fun A F => ?_)
 refine Zs 5 (L90 n) sz_35 F H fun A w F H => ?_
 refine Av F fun A F => ?_
 refine Nl kk (Wr (ret2 F Tryz.results81 (res_row (i := 5) (xs := (L90 n)) rw_35 F H rfl rfl rfl rfl) (res_tmp F rfl) ?_))
 exact ⟨_, rfl, rfl, H.pickN 6 1 [] []⟩
abbrev L91 (x0 : BitVec 64) : Value := .agg #[iI 0, iU 0, iU 0, iU 0, iU 0, iU 0, iU 0, iU 0, iU 0, iU 0, iU 0, iU 0, iW ((BitVec.setWidth 32 (Mx.word x0)).toNat), iW ((BitVec.setWidth 32 ((Mx.word x0) >>> 32)).toNat), bF]
abbrev L92 (x0 : BitVec 64) : Value := .agg #[iW ((BitVec.setWidth 32 (Mx.word x0)).toNat), iW ((BitVec.setWidth 32 ((Mx.word x0) >>> 32)).toNat)]
abbrev L93 (x0 : BitVec 64) : Value := .agg #[iU 0, iU 0, iW ((BitVec.setWidth 32 (Mx.word x0)).toNat), iW ((BitVec.setWidth 32 ((Mx.word x0) >>> 32)).toNat), bF]
abbrev L94 (x0 : BitVec 64) : List Value := [iI 0, iU 0, iU 0, iU 0, iU 0, iU 0, iU 0, iU 0, iU 0, iU 0, iU 0, iU 0, iW ((BitVec.setWidth 32 (Mx.word x0)).toNat), iW ((BitVec.setWidth 32 ((Mx.word x0) >>> 32)).toNat), bF]
theorem cx1009 (H : Sx.Own w0 w bs rs K) : Cr 148 #[uN n, (L77 n)] w0 w (L91 n) bs rs K := by
 refine En Tryz.func148 Tryz.ntmps148 fun A F => ?_
 refine Sp fun _ kk => Zb F (d_box F H rfl rfl (L76 n) rfl) fun g1 A w F H => ?_
 refine Zb F (d_alloc H rfl L79 zero_35) fun g2 A w F H => ?_
 refine Nl kk (Sp fun _ kk => Zv F (d_iaddr (v := pT g1 0) F rfl rfl rfl (by kernel_rfl)) fun A F => ?_)
 refine Av F fun A F => ?_
 refine Zv F (d_conv (v := iW ((BitVec.setWidth 32 (Mx.word n)).toNat)) F rfl rfl (c_u64_u32 (Mx.word n))) fun A F => ?_
 refine Zv F (d_iaddr (v := pT g1 0) F rfl rfl rfl (by kernel_rfl)) fun A F => ?_
 refine Av F fun A F => ?_
 refine Zv F (Bn (uN ((Mx.word n) >>> 32)) F rfl rfl rfl (i_shr64 (Mx.word n) 32 (by decide) _)) fun A F => ?_
 refine Zv F (d_conv (v := iW ((BitVec.setWidth 32 ((Mx.word n) >>> 32)).toNat)) F rfl rfl (c_u64_u32 ((Mx.word n) >>> 32))) fun A F => ?_
 refine Zv F (d_build (qs := #[(0, iW ((BitVec.setWidth 32 (Mx.word n)).toNat)), (1, iW ((BitVec.setWidth 32 ((Mx.word n) >>> 32)).toNat))]) (v := (L92 n)) F rfl rfl (by kernel_rfl)) fun A F => ?_
 refine Zv F (d_build (qs := #[(1, (L92 n))]) (v := (L93 n)) F rfl rfl (by kernel_rfl)) fun A F => ?_
 refine Zv F (d_build (qs := #[(4, (L93 n))]) (v := (L91 n)) F rfl rfl (by kernel_rfl)) fun A F => ?_
 refine Zs 0 (L94 n) sz_35 F H fun A w F H => ?_
 refine Nl kk (Wr (ret1 F Tryz.results148 (res_row (i := 0) (xs := (L94 n)) rw_35 F H rfl rfl rfl rfl) ?_))
 exact ⟨_, rfl, rfl, H.pickN 2 0 [] []⟩
abbrev L95 (x0 : BitVec 64) : List Value := [iI 4, iU 0, iU 0, iU 0, iU 0, iU 0, iU 0, iU 0, iU 0, iU 0, iU 0, iU 0, iW ((BitVec.setWidth 32 (Mx.word x0)).toNat), iW ((BitVec.setWidth 32 ((Mx.word x0) >>> 32)).toNat), bF]
theorem cx1010 (H : Sx.Own w0 w bs rs K) : Cr 81 #[iI 4, uN n] w0 w (.tuple #[.agg #[iI 4, iU 0, iU 0, iU 0, iU 0, iU 0, iU 0, iU 0, iU 0, iU 0, iU 0, iU 0, iW ((BitVec.setWidth 32 (Mx.word n)).toNat), iW ((BitVec.setWidth 32 ((Mx.word n) >>> 32)).toNat), bF], iI 0]) bs rs K := by
 refine En Tryz.func81 Tryz.ntmps81 fun A F => ?_
 refine Sp fun _ kk => Zb F (d_alloc H rfl L79 zero_35) fun g1 A w F H => ?_
 refine Av F fun A F => ?_
 refine Nl kk (Sx.seq fun K2 hK2 => Sp fun _ kk => Zx F (Do if_121 F (cx1001 H)) ?_)
 rintro _ w ⟨rfl, H⟩ A F
 refine Av F fun A F => ?_
 refine Nl kk (wp_block (wp_loop_rounds 40 ?_))
 refine Rs ?_
 refine Sp fun _ kk => Av F fun A F => ?_
 refine Nl kk (Sx.seq fun K5 hK5 => condT F rfl (wp_skip (hK5 _ _ (Sx.seq fun K6 hK6 => wp_block (Sp fun _ kk => Zv F (d_index (v := L71) F rfl rfl rfl (by kernel_rfl)) fun A F => ?_)))))
 refine Zb F (d_alloc H rfl [iI 0, .nilFunc] zero_208) fun g2 A w F H => ?_
 refine Zs 0 [iI 1, .func (.func 145) #[] #[]] sz_208 F H fun A w F H => ?_
 refine Nl kk (Sx.seq fun K8 hK8 => Sp fun _ kk => ?_)
 iterate 4 (refine Av F ?_; intro A F)
 refine Nl kk (condT F rfl (wp_exit ?_))
 try dsimp only [Exit.then, Exit.jump, Exit.noGoto]
 refine exit_here (hK6 _ _ (Sx.plain ?_))
 refine Zn (iI 1) F fun A F => ?_
 refine Av F fun A F => ?_
 refine Sx.nil (Rs ?_)
 refine Sp fun _ kk => Av F fun A F => ?_
 refine Nl kk (Sx.seq fun K11 hK11 => condT F rfl (wp_skip (hK11 _ _ (Sx.seq fun K12 hK12 => wp_block (Sp fun _ kk => Zv F (d_index (v := L72) F rfl rfl rfl (by kernel_rfl)) fun A F => ?_)))))
 refine Zb F (d_alloc H rfl [iI 0, .nilFunc] zero_208) fun g3 A w F H => ?_
 refine Zs 0 [iI 2, .func (.func 146) #[] #[]] sz_208 F H fun A w F H => ?_
 refine Nl kk (Sx.seq fun K14 hK14 => Sp fun _ kk => ?_)
 iterate 4 (refine Av F ?_; intro A F)
 refine Nl kk (condT F rfl (wp_exit ?_))
 try dsimp only [Exit.then, Exit.jump, Exit.noGoto]
 refine exit_here (hK12 _ _ (Sx.plain ?_))
 refine Zn (iI 2) F fun A F => ?_
 refine Av F fun A F => ?_
 refine Sx.nil (Rs ?_)
 refine Sp fun _ kk => Av F fun A F => ?_
 refine Nl kk (Sx.seq fun K17 hK17 => condT F rfl (wp_skip (hK17 _ _ (Sx.seq fun K18 hK18 => wp_block (Sp fun _ kk => Zv F (d_index (v := L73) F rfl rfl rfl (by kernel_rfl)) fun A F => ?_)))))
 refine Zb F (d_alloc H rfl [iI 0, .nilFunc] zero_208) fun g4 A w F H => ?_
 refine Zs 0 [iI 3, .func (.func 147) #[] #[]] sz_208 F H fun A w F H => ?_
 refine Nl kk (Sx.seq fun K20 hK20 => Sp fun _ kk => ?_)
 iterate 4 (refine Av F ?_; intro A F)
 refine Nl kk (condT F rfl (wp_exit ?_))
 try dsimp only [Exit.then, Exit.jump, Exit.noGoto]
 refine exit_here (hK18 _ _ (Sx.plain ?_))
 refine Zn (iI 3) F fun A F => ?_
 refine Av F fun A F => ?_
 refine Sx.nil (Rs ?_)
 refine Sp fun _ kk => Av F fun A F => ?_
 refine Nl kk (Sx.seq fun K23 hK23 => condT F rfl (wp_skip (hK23 _ _ (Sx.seq fun K24 hK24 => wp_block (Sp fun _ kk => Zv F (d_index (v := L74) F rfl rfl rfl (by kernel_rfl)) fun A F => ?_)))))
 refine Zb F (d_alloc H rfl [iI 0, .nilFunc] zero_208) fun g5 A w F H => ?_
 refine Zs 0 [iI 4, .func (.func 148) #[] #[]] sz_208 F H fun A w F H => ?_
 refine Nl kk (Sx.seq fun K26 hK26 => Sp fun _ kk => ?_)
 iterate 4 (refine Av F ?_; intro A F)
 refine Nl kk (condF F rfl (wp_skip (hK26 _ _ (Sp fun _ kk => Zb F (d_alloc H rfl [iU 0, iU 0, iU 0, iU 0] zero_23) fun g6 A w F H => ?_))))
 refine Nl kk (Sp fun _ kk => Av F fun A F => ?_)
 refine Zx F (Do if_122 F (cx1002 H)) ?_
 rintro _ w ⟨g7, c1, hbc1, rfl, H⟩ A F
 iterate 7 (refine Av F ?_; intro A F)
 refine Nl kk (Sp fun _ kk => Zv F (d_sliceG (v := sL g6 0 4 4) (lv := none) (hv := none) (mv := none) F rfl rfl rfl rfl rfl (by kernel_rfl)) fun A F => ?_)
 refine Av F fun A F => ?_
 refine Zx F (d_copyB (i := 0) (cs := (L76 n)) (us := (L76 n)) (m := 4) (el_65).1 (by kernel_rfl) F H rfl rfl rfl rfl (by decide) (fun j u hu => Sx.box_part (news := (L76 n)) ((H.rowBox (i := 0) rfl).box 0 g7 _ rfl).1 rfl j u hu) rfl rfl (Nat.le_of_ble_eq_true rfl) rfl) ?_
 rintro _ w ⟨rfl, H⟩ A F
 have H : Sx.Own w0 w (Bt g6 (L76 n) :: Bt g5 [iI 4, .func (.func 148) #[] #[]] :: Bt g4 [iI 3, .func (.func 147) #[] #[]] :: Bt g3 [iI 2, .func (.func 146) #[] #[]] :: Bt g2 [iI 1, .func (.func 145) #[] #[]] :: Bt g1 L79 :: bs) (⟨true, sL g7 0 4 c1, 22, 1, 4, (L76 n)⟩ :: rs) K := H
 refine Nl kk (Sp fun _ kk => ?_)
 iterate 4 (refine Av F ?_; intro A F)
 refine Zx F (d_callCO (fv := []) (vs := (L81 n)) (cv := []) if_148 F rfl rfl rfl (cx1009 H)) ?_
 rintro _ w ⟨rfl, H⟩ A F
 refine Zb F (d_alloc H rfl L79 zero_35) fun g8 A w F H => ?_
 refine Zs 0 (L94 n) sz_35 F H fun A w F H => ?_
 refine Nl kk (Sp fun _ kk => ?_)
 iterate 2 (refine Av F ?_; intro A F)
 refine Zs 0 (L95 n) sz_3 F H fun A w F H => ?_
 refine Nl kk (Sp fun _ kk => Av F fun A F => ?_)
 refine Zs 6 (L95 n) sz_35 F H fun A w F H => ?_
 refine Av F fun A F => ?_
 refine Nl kk (Wr (ret2 F Tryz.results81 (res_row (i := 6) (xs := (L95 n)) rw_35 F H rfl rfl rfl rfl) (res_tmp F rfl) ?_))
 exact ⟨_, rfl, rfl, H.pickN 7 1 [] []⟩
namespace Bd
def sd1 (n : BitVec 64) : Gs := mk1 n
def sd2 (n : BitVec 64) : Gs := mk2 ⟨Mx.word n, Mx.word (Mx.step n), Mx.word (Mx.step (Mx.step n)), Mx.word (Mx.step (Mx.step (Mx.step n)))⟩
def sd3 (n : BitVec 64) : Gs := mk3 (Wd.mk (Mx.word n) (Mx.word (Mx.step n))) (Wd.mk (Mx.word (Mx.step (Mx.step n))) (Mx.word (Mx.step (Mx.step (Mx.step n))) ||| 1#64))
def sd4 (n : BitVec 64) : Gs := mk4 ⟨0#128, BitVec.setWidth 32 (Mx.word n), BitVec.setWidth 32 (Mx.word n >>> 32), false⟩
end Bd
theorem snew1_c (n : BitVec 64) (w : World) : Calls Tryz.prog 81 #[.int .i64 1, .int .u64 n.toNat] w fun e w' => e = .returned (.tuple #[(Bd.sd1 n).val, .int .i64 0]) ∧ Below w.heap.size w w' := by
  refine (cx1004 (K := fun _ => none) (Sx.Own.start w)).mono ?_
  rintro e w' ⟨x, rfl, rfl, H⟩
  refine ⟨?_, H.below⟩
  kernel_rfl
theorem snew2_c (n : BitVec 64) (w : World) : Calls Tryz.prog 81 #[.int .i64 2, .int .u64 n.toNat] w fun e w' => e = .returned (.tuple #[(Bd.sd2 n).val, .int .i64 0]) ∧ Below w.heap.size w w' := by
  refine (cx1006 (K := fun _ => none) (Sx.Own.start w)).mono ?_
  rintro e w' ⟨x, rfl, rfl, H⟩
  refine ⟨?_, H.below⟩
  kernel_rfl
theorem snew3_c (n : BitVec 64) (w : World) : Calls Tryz.prog 81 #[.int .i64 3, .int .u64 n.toNat] w fun e w' => e = .returned (.tuple #[(Bd.sd3 n).val, .int .i64 0]) ∧ Below w.heap.size w w' := by
  refine (cx1008 (K := fun _ => none) (Sx.Own.start w)).mono ?_
  rintro e w' ⟨x, rfl, rfl, H⟩
  refine ⟨?_, H.below⟩
  unfold Gs.val Bd.sd3 Bd.mk3
  simp only [Wd.hi_mk, Wd.lo_mk]
  kernel_rfl
theorem snew4_c (n : BitVec 64) (w : World) : Calls Tryz.prog 81 #[.int .i64 4, .int .u64 n.toNat] w fun e w' => e = .returned (.tuple #[(Bd.sd4 n).val, .int .i64 0]) ∧ Below w.heap.size w w' := by
  refine (cx1010 (K := fun _ => none) (Sx.Own.start w)).mono ?_
  rintro e w' ⟨x, rfl, rfl, H⟩
  refine ⟨?_, H.below⟩
  kernel_rfl
end
namespace Tj
theorem right_it {s : St} (h : Xj.right s = true) (n : Nat) : Xj.right (Xo.it n s) = true := by
  cases hq : Xj.right (Xo.it n s)
  · exact absurd ((Xo.it_ne n s).1 (Xj.right_eq hq)) (Xj.right_ne h)
  · rfl
end Tj
namespace Bd
structure Gen extends Gp where
  k : Int
  lim : BitVec 128
  seed : BitVec 64 → Gs
  jump : Gs → BitVec 128 → Gs
  ok : Gs → Prop
  lim_pos : 0 < lim.toNat
  lim_le : lim.toNat ≤ 170141183460469231731687303715884105728
  k_pos : 0 < k
  k_le : k ≤ 4
  ok_seed : ∀ n, ok (seed n)
  ok_jump : ∀ s n, ok s → ok (jump s n)
  ok_step : ∀ s, ok s → ok (step s)
  jump0 : ∀ s, ok s → jump s 0#128 = s
  limit_c : ∀ w : World, Calls Tryz.prog 17 #[.int .i64 k] w fun e w' => e = .returned (.agg #[.int .u64 (Wd.hi lim).toNat, .int .u64 (Wd.lo lim).toNat]) ∧ Below w.heap.size w w'
  new_c : ∀ (n : BitVec 64) (w : World), Calls Tryz.prog 81 #[.int .i64 k, .int .u64 n.toNat] w fun e w' => e = .returned (.tuple #[(seed n).val, .int .i64 0]) ∧ Below w.heap.size w w'
  jump_c : ∀ (s : Gs) (_ : ok s) (n : BitVec 128) (w : World), Calls Tryz.prog 6 #[s.val, .agg #[.int .u64 (Wd.hi n).toNat, .int .u64 (Wd.lo n).toNat]] w fun e w' => e = .returned (.tuple #[(jump s n).val, .int .i64 0]) ∧ Below w.heap.size w w'
  words_c : ∀ (s : Gs) (_ : ok s) (m : Nat) (_ : m ≤ 256) (w : World), Calls Tryz.prog 55 #[s.val, .int .i64 m] w fun e w' => ∃ v, e = .returned (.tuple #[v, (Gp.it toGp m s).val, .int .i64 0]) ∧ w'.ownsRow w.heap.size 22 1 v m (u64s (Gp.ws toGp m s)) ∧ Below w.heap.size w w'
theorem Gen.ok_it (G : Gen) {s : Gs} (h : G.ok s) : ∀ n, G.ok (G.it n s)
  | 0 => h
  | n + 1 => G.ok_step _ (G.ok_it h n)
theorem seed_right (n : BitVec 64) (x y : BitVec 64) : Xj.right ⟨Mx.word n, Mx.word (Mx.step n), x, y⟩ = true := by
  cases h : Xj.right ⟨Mx.word n, Mx.word (Mx.step n), x, y⟩ with
  | true => rfl
  | false =>
    exfalso
    have e := Xj.right_eq h
    have e0 : Mx.word n = 0#64 := congrArg St.a e
    have e1 : Mx.word (Mx.step n) = 0#64 := congrArg St.b e
    have e2 : n = Mx.step n := Mx.word_inj.1 (e0.trans e1.symm)
    have e3 := congrArg BitVec.toNat e2
    rw [Mx.step, BitVec.toNat_add, show Mx.gamma.toNat = 11400714819323198485 from rfl] at e3
    have := n.isLt
    omega
theorem step_right {x : St} (h : Xj.right x = true) : Xj.right (Xo.step x) = true := Tj.right_it h 1
theorem or_odd (a : BitVec 64) (b : BitVec 64) : Af.odd (Wd.mk b (a ||| 1#64)) = true := by
  unfold Af.odd Wd.mk
  rw [BitVec.getLsbD_append]
  simp
def gen1 : Gen where
  toGp := g1
  k := 1
  lim := 9223372036854775808#128
  seed := sd1
  jump u n := mk1 (Mx.jump u.m (Wd.lo n))
  ok u := ∃ m, u = mk1 m
  lim_pos := by decide
  lim_le := by decide
  k_pos := by decide
  k_le := by decide
  ok_seed n := ⟨_, rfl⟩
  ok_jump s n h := ⟨_, rfl⟩
  ok_step s h := ⟨_, rfl⟩
  jump0 s h := by obtain ⟨m, rfl⟩ := h; simp [mk1, Mx.jump, Wd.lo]
  limit_c w := glimit1_c w
  new_c n w := snew1_c n w
  jump_c s h n w := by obtain ⟨m, rfl⟩ := h; exact gjmp1_ok m n w
  words_c s h m hm w := by obtain ⟨x, rfl⟩ := h; exact gwords1_c x m hm w
def gen2 : Gen where
  toGp := g2
  k := 2
  lim := 170141183460469231731687303715884105728#128
  seed := sd2
  jump u n := mk2 (Xo.it n.toNat u.x)
  ok u := ∃ x, Xj.right x = true ∧ u = mk2 x
  lim_pos := by decide
  lim_le := by decide
  k_pos := by decide
  k_le := by decide
  ok_seed n := ⟨_, seed_right _ _ _, rfl⟩
  ok_jump s n h := by obtain ⟨x, hx, rfl⟩ := h; exact ⟨_, Tj.right_it hx _, rfl⟩
  ok_step s h := by obtain ⟨x, hx, rfl⟩ := h; exact ⟨_, step_right hx, rfl⟩
  jump0 s h := by obtain ⟨x, hx, rfl⟩ := h; rfl
  limit_c w := glimit2_c w
  new_c n w := snew2_c n w
  jump_c s h n w := by obtain ⟨x, hx, rfl⟩ := h; exact gjmp2_ok x hx n w
  words_c s h m hm w := by obtain ⟨x, hx, rfl⟩ := h; exact gwords2_c x hx m hm w
def gen3 : Gen where
  toGp := g3
  k := 3
  lim := 170141183460469231731687303715884105728#128
  seed := sd3
  jump u n := mk3 (Pc.jump ⟨u.s, u.i⟩ n).s u.i
  ok u := ∃ s i, Af.odd i = true ∧ u = mk3 s i
  lim_pos := by decide
  lim_le := by decide
  k_pos := by decide
  k_le := by decide
  ok_seed n := ⟨_, _, or_odd _ _, rfl⟩
  ok_jump s n h := by obtain ⟨a, i, hi, rfl⟩ := h; exact ⟨_, _, hi, rfl⟩
  ok_step s h := by obtain ⟨a, i, hi, rfl⟩ := h; exact ⟨_, _, hi, rfl⟩
  jump0 s h := by obtain ⟨a, i, hi, rfl⟩ := h; show mk3 (Pc.jump ⟨a, i⟩ 0#128).s i = _; rw [Pc.jump_zero]
  limit_c w := glimit3_c w
  new_c n w := snew3_c n w
  jump_c s h n w := by obtain ⟨a, i, hi, rfl⟩ := h; exact gjmp3_ok a i hi n w
  words_c s h m hm w := by obtain ⟨a, i, hi, rfl⟩ := h; exact gwords3_c a i hi m hm w
def gen4 : Gen where
  toGp := g4
  k := 4
  lim := 170141183460469231731687303715884105728#128
  seed := sd4
  jump u n := mk4 (Hf.jump ⟨u.c, u.k0, u.k1, u.b⟩ n)
  ok u := ∃ h, u = mk4 h
  lim_pos := by decide
  lim_le := by decide
  k_pos := by decide
  k_le := by decide
  ok_seed n := ⟨_, rfl⟩
  ok_jump s n h := ⟨_, rfl⟩
  ok_step s h := ⟨_, rfl⟩
  jump0 s h := by obtain ⟨a, rfl⟩ := h; show mk4 (Hf.jump ⟨a.c, a.k0, a.k1, a.b⟩ 0#128) = _; rw [Hf.jump_zero]
  limit_c w := glimit4_c w
  new_c n w := snew4_c n w
  jump_c s h n w := by obtain ⟨a, rfl⟩ := h; exact gjmp4_ok a.c a.k0 a.k1 a.b n w
  words_c s h m hm w := by obtain ⟨a, rfl⟩ := h; exact gwords4_c a m hm w
def gens (k : Nat) : Gen := if k % 4 = 0 then gen1 else if k % 4 = 1 then gen2 else if k % 4 = 2 then gen3 else gen4
theorem gens_k (k : Nat) : (gens k).k = (k : Int) % 4 + 1 := by
  unfold gens
  split
  · show (1 : Int) = _; omega
  split
  · show (2 : Int) = _; omega
  split
  · show (3 : Int) = _; omega
  · show (4 : Int) = _; omega
end Bd
section
namespace Bd
variable (G : Gen)
def org (n : BitVec 64) (at' : BitVec 128) : Gs := G.jump (G.seed n) at'
def wd (n : BitVec 64) (at' p : BitVec 128) : BitVec 64 := G.word (G.it (p.toNat - at'.toNat) (org G n at'))
def blk (m : Nat) (z : Gs) (y : Nat → BitVec 64) : Nat → BitVec 64 := fun i => if i < m then G.word (G.it i z) else y i
def Buf (n : BitVec 64) (at' : BitVec 128) (g : Nat) (p : BitVec 128) (y : Nat → BitVec 64) (b : Value) (z : Gs) : Prop :=
  ∃ r o : Nat, ((r = 0 ∧ ∃ q, b = .slice q 0 0) ∨ (0 < r ∧ b = .slice (some ⟨g, 4 + o, none⟩) r r)) ∧ o + r ≤ 8 ∧ at'.toNat ≤ p.toNat ∧ p.toNat + r ≤ G.lim.toNat ∧ z = G.it (p.toNat - at'.toNat + r) (org G n at') ∧ ∀ i, i < r → y (o + i) = G.word (G.it (p.toNat - at'.toNat + i) (org G n at'))
theorem ok_org (n : BitVec 64) (at' : BitVec 128) : G.ok (org G n at') := G.ok_jump _ _ (G.ok_seed _)
theorem Buf.ok {n : BitVec 64} {at' : BitVec 128} {g : Nat} {p : BitVec 128} {y : Nat → BitVec 64} {b : Value} {z : Gs} (h : Buf G n at' g p y b z) : G.ok z := by
  obtain ⟨r, o, _, _, _, _, rfl, _⟩ := h
  exact G.ok_it (ok_org G n at') _
theorem Buf.start (n : BitVec 64) (at' : BitVec 128) (g : Nat) (h : at'.toNat ≤ G.lim.toNat) (y : Nat → BitVec 64) : Buf G n at' g at' y (.slice none 0 0) (org G n at') :=
  ⟨0, 0, .inl ⟨rfl, none, rfl⟩, by omega, Nat.le_refl _, by omega, by rw [Nat.sub_self]; rfl, fun i hi => by omega⟩
theorem Buf.filled {n : BitVec 64} {at' : BitVec 128} {g : Nat} {p : BitVec 128} {y : Nat → BitVec 64} {q : Option Addr} {z : Gs} {m : Nat} (h : Buf G n at' g p y (.slice q 0 0) z) (h0 : 0 < m) (h8 : m ≤ 8) (hm : p.toNat + m ≤ G.lim.toNat) :
    Buf G n at' g p (blk G m z y) (.slice (some ⟨g, 4 + 0, none⟩) m m) (G.it m z) := by
  obtain ⟨r, o, hb, _, h1, _, rfl, _⟩ := h
  have hr : r = 0 := by
    rcases hb with ⟨h, _⟩ | ⟨h, e⟩
    · exact h
    · injection e with _ e _; omega
  subst hr
  refine ⟨m, 0, .inr ⟨h0, rfl⟩, by omega, h1, hm, ?_, fun i hi => ?_⟩
  · rw [Nat.add_zero, Gp.it_add]
  · show (if 0 + i < m then _ else _) = _
    rw [Nat.zero_add, if_pos hi, Nat.add_zero, Gp.it_add]
theorem Buf.next {n : BitVec 64} {at' : BitVec 128} {g : Nat} {p : BitVec 128} {y : Nat → BitVec 64} {z : Gs} {r o : Nat} {b : Value} (hb : b = .slice (if r = 1 then some ⟨g, 4 + o, none⟩ else some ⟨g, 4 + o + 1 * 1, none⟩) (r - 1) (r - 1)) (h : Buf G n at' g p y (.slice (some ⟨g, 4 + o, none⟩) r r) z) (h0 : 0 < r) :
    Buf G n at' g (p + 1#128) y b z ∧ y o = wd G n at' p := by
  obtain ⟨r', o', hb', h8, h1, h2, hz, hy⟩ := h
  have hr : r = r' ∧ o = o' := by
    rcases hb' with ⟨h, q, e⟩ | ⟨h, e⟩
    · injection e with _ e _; omega
    · injection e with e1 e2 _; injection e1 with e1; injection e1 with _ e1 _; omega
  obtain ⟨rfl, rfl⟩ := hr
  have hp : (p + 1#128).toNat = p.toNat + 1 := by
    rw [BitVec.toNat_add]
    have := G.lim_le; have e : (1#128 : BitVec 128).toNat = 1 := rfl
    rw [e]; omega
  have hs : (p + 1#128).toNat - at'.toNat = p.toNat - at'.toNat + 1 := by omega
  refine ⟨⟨r - 1, if r = 1 then o else o + 1, ?_, ?_, by omega, by omega, ?_, fun i hi => ?_⟩, ?_⟩
  · by_cases hr1 : r = 1
    · rw [if_pos hr1] at hb
      exact .inl ⟨by omega, some ⟨g, 4 + o, none⟩, by rw [hb, hr1]⟩
    · rw [if_neg hr1] at hb ⊢
      exact .inr ⟨by omega, by rw [hb, show 4 + o + 1 * 1 = 4 + (o + 1) from by omega]⟩
  · split <;> omega
  · rw [hs, hz]; congr 1; omega
  · rw [if_neg (by omega), hs, show o + 1 + i = o + (1 + i) from by omega, hy (1 + i) (by omega)]
    congr 2; omega
  · have := hy 0 h0
    rw [Nat.add_zero, Nat.add_zero] at this
    exact this
theorem splice_blk (m : Nat) (hm : m ≤ 8) (z : Gs) (y : Nat → BitVec 64) (c0 c1 c2 c3 : Value) (t : List Value) :
    Sx.splice (c0 :: c1 :: c2 :: c3 :: .int .u64 (y 0).toNat :: .int .u64 (y 1).toNat :: .int .u64 (y 2).toNat :: .int .u64 (y 3).toNat :: .int .u64 (y 4).toNat :: .int .u64 (y 5).toNat :: .int .u64 (y 6).toNat :: .int .u64 (y 7).toNat :: t) 4 (u64s (G.ws m z))
      = c0 :: c1 :: c2 :: c3 :: .int .u64 (blk G m z y 0).toNat :: .int .u64 (blk G m z y 1).toNat :: .int .u64 (blk G m z y 2).toNat :: .int .u64 (blk G m z y 3).toNat :: .int .u64 (blk G m z y 4).toNat :: .int .u64 (blk G m z y 5).toNat :: .int .u64 (blk G m z y 6).toNat :: .int .u64 (blk G m z y 7).toNat :: t := by
  match m, hm with
  | 0, _ => rfl
  | 1, _ => rfl
  | 2, _ => rfl
  | 3, _ => rfl
  | 4, _ => rfl
  | 5, _ => rfl
  | 6, _ => rfl
  | 7, _ => rfl
  | 8, _ => rfl
  | m + 9, h => omega
theorem at_blk (o : Nat) (ho : o < 8) (y : Nat → BitVec 64) (c0 c1 c2 c3 : Value) (t : List Value) :
    (c0 :: c1 :: c2 :: c3 :: .int .u64 (y 0).toNat :: .int .u64 (y 1).toNat :: .int .u64 (y 2).toNat :: .int .u64 (y 3).toNat :: .int .u64 (y 4).toNat :: .int .u64 (y 5).toNat :: .int .u64 (y 6).toNat :: .int .u64 (y 7).toNat :: t)[4 + o + 0]? = some (.int .u64 (y o).toNat) := by
  match o, ho with
  | 0, _ => rfl
  | 1, _ => rfl
  | 2, _ => rfl
  | 3, _ => rfl
  | 4, _ => rfl
  | 5, _ => rfl
  | 6, _ => rfl
  | 7, _ => rfl
  | o + 8, h => omega
theorem ones_u64s (l : List (BitVec 64)) : Sx.ones (u64s l) = true := by
  unfold Sx.ones
  rw [List.all_eq_true]
  intro x hx
  unfold u64s at hx
  obtain ⟨a, _, rfl⟩ := List.mem_map.1 hx
  rfl
end Bd
namespace Sx
section
variable {P : Program} {n : Nat} {o : Oper} {a : Act} {w w0 : World} {kv : List (Nat × Value)} {bs : List Bx} {rs : List Rx} {K : Nat → Option Obj} {ds : List Deferred}
theorem d_copyR {d s : Operand} {dT sT E E' : TypeId} {b k i j dl dc m : Nat} {v : Value} {vs us cs : List Value} (hu : P.underlying dT = some (.slice E)) (hs : (P.info? E).map (·.size) = some 1) (F : Fr n a kv ds) (H : Own w0 w bs rs K)
    (ho : o.op = .call { callee := .builtin .copy, args := #[d, s], argTypes := #[dT, sT] }) (hd : ev kv d = some (.slice (some ⟨b, k, none⟩) dl dc)) (hsv : ev kv s = some v) (hj : rs[j]? = some ⟨true, v, E', 1, m, cs⟩) (h0 : 0 < m) (hle : m ≤ dl)
    (h1 : ones cs = true) (hi : bs[i]? = some (true, b, vs)) (hk : k + m ≤ vs.length) (hus : splice vs k cs = us) : Does P o a w (fun x w' => x = .int .i64 (m : Nat) ∧ Own w0 w' (bs.set i (true, b, us)) rs K) := by
  obtain ⟨g, cap, rfl, _, _⟩ := H.open hj h0
  have hr : w.ownsRow w0.heap.size E' 1 (.slice (some ⟨g, 0, none⟩) m cap) m cs := H.row j _ hj rfl
  have hl : cs.length = m := by have := hr.1; omega
  refine d_copyB hu hs F H ho hd hsv hl (Nat.min_eq_left hle).symm (fun q u hq => ?_) h1 hi hk hus
  have hq' : q < m := by have := (List.getElem?_eq_some_iff.1 hq).1; omega
  have := World.ownsRow.cellAt hr q (by omega)
  rw [hq] at this
  simpa [Addr.add_mid] using this
theorem run_sliceHM {t t' E : TypeId} {b k m bytes : Nat} {kh km : IntKind} (hT : elemT P t' E 1 bytes) (ht : P.underlying t = some (.array (P.arrayLen t) (P.elem t))) (hE : P.elem t = E) (hm : m ≤ P.arrayLen t) :
    (Instr.sliceAt t (.pointer (some ⟨b, k, none⟩)) none (some (.int kh (m : Int))) (some (.int km (m : Int)))).run P w = .ok (.slice (some ⟨b, k, none⟩) m m) w := by
  rw [run_sliceAt_array_hm w t ⟨b, k, none⟩ ht kh km m m (by omega) (by omega) (by omega), hE, size_of hT, Result.andThen_ok]
  unfold slicedAt
  simp [Addr.add_mid]
end
end Sx
end
section
open Sx
variable {w0 w : World} {bs : List Sx.Bx} {rs : List Sx.Rx} {K : Nat → Option Obj} {g1 g2 g3 g4 g5 g6 g7 g8 g9 g10 g11 g12 g13 g14 g15 g16 g17 g18 g19 g20 g21 g22 g23 g24 c1 c2 c3 c4 c5 c6 c7 c8 c9 : Nat} {v1 v2 v3 v4 v5 v6 v7 v8 v9 : Value} {n b : BitVec 64} {at' : BitVec 128} {kd lf : BitVec 8} {G : Bd.Gen}
namespace Bd
theorem cmp_lt0 (a b : BitVec 128) : Wd.cmp a b < 0 ↔ a.toNat < b.toNat := by
  unfold Wd.cmp Wd.cmpN
  split
  · simp; omega
  · split <;> simp <;> omega
theorem cmp_le0 (a b : BitVec 128) : Wd.cmp a b ≤ 0 ↔ a.toNat ≤ b.toNat := by
  unfold Wd.cmp Wd.cmpN
  split
  · simp; omega
  · split <;> simp <;> omega
theorem cmp_gt0 (a b : BitVec 128) : Wd.cmp a b > 0 ↔ b.toNat < a.toNat := by
  unfold Wd.cmp Wd.cmpN
  split
  · simp; omega
  · split <;> simp <;> omega
theorem cmp8_lt {x : BitVec 128} (h : x.toNat < 8) : decide ((Wd.cmp x 8#128 : Int) < 0) = true := decide_eq_true ((cmp_lt0 _ _).2 h)
theorem cmp8_ge {x : BitVec 128} (h : ¬ x.toNat < 8) : decide ((Wd.cmp x 8#128 : Int) < 0) = false := decide_eq_false fun e => h ((cmp_lt0 _ _).1 e)
theorem sub_nat {a b : BitVec 128} (h : b.toNat ≤ a.toNat) : (a - b).toNat = a.toNat - b.toNat := by
  rw [BitVec.toNat_sub]; have := a.isLt; have := b.isLt; omega
theorem left_ne {a b : BitVec 128} (h : b.toNat < a.toNat) : Wd.eqb (a - b) 0#128 = false := by
  refine decide_eq_false fun e => ?_
  have := congrArg BitVec.toNat e
  rw [sub_nat (Nat.le_of_lt h)] at this
  have e0 : (0#128 : BitVec 128).toNat = 0 := rfl
  omega
theorem lo_small {x : BitVec 128} (h : x.toNat < 8) : (Wd.lo x).toNat = x.toNat := by
  rw [Wd.lo_nat]; omega
end Bd
abbrev L96 (x0 : Bd.Gen) (x1 : BitVec 64) (x2 : BitVec 128) (x3 : Nat → BitVec 64) (x4 : Value) (x5 : Gs) : List Value := [iI x0.k, uN x1, uH x2, uL x2, uN (x3 0), uN (x3 1), uN (x3 2), uN (x3 3), uN (x3 4), uN (x3 5), uN (x3 6), uN (x3 7), x4, iI x5.k, uN x5.m, uN x5.x.a, uN x5.x.b, uN x5.x.c, uN x5.x.d, uH x5.s, uL x5.s, uH x5.i, uL x5.i, uH x5.c, uL x5.c, iW x5.k0.toNat, iW x5.k1.toNat, .bool x5.b]
abbrev L97 (x0 : Bd.Gen) (x1 : BitVec 128) : Value := .agg #[uH (x0.lim - x1), uL (x0.lim - x1)]
theorem cx2001 {p : BitVec 128} {y : Nat → BitVec 64} {z : Gs} {bv : Value} (H : Sx.Own w0 w (Bt g1 (L96 G n p y bv z) :: bs) rs K) : Cr 159 #[pT g1 0] w0 w (L97 G p) (Bt g1 (L96 G n p y bv z) :: bs) rs K := by
 refine En Tryz.func159 Tryz.ntmps159 fun A F => ?_
 refine Sp fun _ kk => Zb F (d_alloc H rfl [iU 0, iU 0] zero_26) fun g2 A w F H => ?_
 refine Nl kk (Sx.seq fun K2 hK2 => ?_)
 have F := F.tq [(0, pT g1 0), (2, pT g2 0)] rfl
 refine Dn F [some (pT g1 0), some (pT g1 0), some (pT g1 0), some (iI G.k), some (.agg #[uH G.lim, uL G.lim]), some (pT g1 0), some (pT g1 0), some (pT g1 2), some (.agg #[uH p, uL p]), some (.tuple #[(L97 G p), .bool (Wd.less G.lim p)]), some (.tuple #[(L97 G p), .bool (Wd.less G.lim p)]), some (L97 G p), some (.bool (Wd.less G.lim p)), none, none, some (.bool (Wd.less G.lim p))] (fun L A w => ∃ g3 : Nat, (L 13 = true → A.eval (.tmp 3) = pT g3 0) ∧ Sx.Own w0 w ((L 13, g3, (cond (L 14) [uH (G.lim - p), uL (G.lim - p)] [iU 0, iU 0])) :: Bt g2 [iU 0, iU 0] :: Bt g1 (L96 G n p y bv z) :: bs) rs K) ⟨0, (fun h => by cases h), H.drew.padG [(false, 0, [iU 0, iU 0])] [] rfl rfl⟩ ?_ ?_
 ·refine ⟨?_, ?_, ?_, ?_, ?_, ?_, ?_, ?_, ?_, ?_, ?_, ?_, ?_, ?_, ?_, ?_, trivial⟩
  ·exact Sa (hS := (fun _ _ _ _ ⟨g3, p13, H⟩ => ⟨g3, Pk p13, H⟩))
  ·exact Sa (hS := (fun _ _ _ _ ⟨g3, p13, H⟩ => ⟨g3, Pk p13, H⟩))
  ·exact Sa (hS := (fun _ _ _ _ ⟨g3, p13, H⟩ => ⟨g3, Pk p13, H⟩))
  ·exact SV (fun _ _ _ F ⟨g3, p13, H⟩ => Ld 2 one_3 F H) (fun _ _ _ _ ⟨g3, p13, H⟩ => ⟨g3, Pk p13, H⟩)
  ·intro L A w up hun hd F ⟨g3, p13, H⟩
   have f14 : L 14 = false := up 14 4 rfl hun
   rw [f14] at H
   refine step_on rfl (Dc if_17 F H (G.limit_c _)) ?_
   rintro xv w' ⟨hx, H⟩
   exact ⟨Cs hx, ⟨g3, Pk p13, (by show Sx.Own _ _ _ _ _; rw [show Inv.add L 4 14 = false from f14]; exact H)⟩⟩
  ·exact Sa (hS := (fun _ _ _ _ ⟨g3, p13, H⟩ => ⟨g3, Pk p13, H⟩))
  ·exact Sa (hS := (fun _ _ _ _ ⟨g3, p13, H⟩ => ⟨g3, Pk p13, H⟩))
  ·exact Sa (hS := (fun _ _ _ _ ⟨g3, p13, H⟩ => ⟨g3, Pk p13, H⟩))
  ·exact SV (fun _ _ _ F ⟨g3, p13, H⟩ => Lr 2 [uH p, uL p] rw_26 F H) (fun _ _ _ _ ⟨g3, p13, H⟩ => ⟨g3, Pk p13, H⟩)
  ·intro L A w up hun hd F ⟨g3, p13, H⟩
   have f14 : L 14 = false := up 14 9 rfl hun
   rw [f14] at H
   refine step_on rfl (Dc if_155 F H (wsub_c G.lim p _)) ?_
   rintro xv w' ⟨hx, H⟩
   exact ⟨Cs hx, ⟨g3, Pk p13, (by show Sx.Own _ _ _ _ _; rw [show Inv.add L 9 14 = false from f14]; exact H)⟩⟩
  ·exact Sa (hS := (fun _ _ _ _ ⟨g3, p13, H⟩ => ⟨g3, Pk p13, H⟩))
  ·exact Sa (hS := (fun _ _ _ _ ⟨g3, p13, H⟩ => ⟨g3, Pk p13, H⟩))
  ·exact Sa (hS := (fun _ _ _ _ ⟨g3, p13, H⟩ => ⟨g3, Pk p13, H⟩))
  ·intro L A w up hun hd F ⟨g3, p13, H⟩
   have f13 : L 13 = false := hun
   have f14 : L 14 = false := up 14 13 rfl hun
   rw [f13, f14] at H
   refine step_on rfl (d_alloc H rfl [iU 0, iU 0] zero_26) ?_
   rintro xv w' ⟨g4, hx, H⟩
   have H := H.pickN 4 0 [0, 2, 3] []
   exact ⟨Cn, ⟨g4, (fun _ => (Sx.put_same F (by decide) _).trans hx), (by show Sx.Own _ _ _ _ _; rw [show Inv.add L 13 14 = false from f14]; exact H)⟩⟩
  ·intro L A w up hun hd F ⟨g3, p13, H⟩
   have t13 : L 13 = true := hd 13 rfl
   have f14 : L 14 = false := hun
   rw [t13, f14] at H
   have F := Fr.add F (p13 t13)
   refine step_on rfl (d_store (i := 0) (xs := [uH (G.lim - p), uL (G.lim - p)]) (us := [uH (G.lim - p), uL (G.lim - p)]) sz_26 F H rfl rfl rfl rfl rfl rfl rfl (Nat.le_of_ble_eq_true rfl) rfl) ?_
   intro xv w' H
   exact ⟨Cn, ⟨g3, p13, (by show Sx.Own _ _ _ _ _; rw [show Inv.add L 14 13 = true from t13]; exact H)⟩⟩
  ·intro L A w up hun hd F ⟨g3, p13, H⟩
   have t13 : L 13 = true := hd 13 rfl
   have t14 : L 14 = true := hd 14 rfl
   have Hj := H; rw [t13, t14] at Hj
   have F := Fr.add F (p13 t13)
   refine step_on rfl (d_move F (Or.inr rfl) rfl) ?_
   rintro xv w' ⟨hx, rfl⟩
   exact ⟨Cs hx, ⟨g3, Pk p13, H⟩⟩
 ·intro L A w hL F ⟨g3, p13, H⟩
  have t13 : L 13 = true := hL 13 rfl
  have t14 : L 14 = true := hL 14 rfl
  rw [t13, t14] at H
  have F := Fr.add F (p13 t13)
  have H := H.pickN 3 0 [0, 1, 2] []
  have F := F.tq [(2, pT g2 0), (3, pT g3 0)] rfl
  refine hK2 _ _ (Sp fun _ kk => Av F fun A F => ?_)
  refine Zs 1 [uH (G.lim - p), uL (G.lim - p)] sz_26 F H fun A w F H => ?_
  refine Nl kk (Wr (ret1 F Tryz.results159 (res_row (i := 1) (xs := [uH (G.lim - p), uL (G.lim - p)]) rw_26 F H rfl rfl rfl rfl) ?_))
  exact ⟨_, rfl, rfl, H.pickN 3 0 [2] []⟩
abbrev L98 (x0 : Bd.Gen) (x1 : BitVec 64) (x2 : BitVec 128) (x3 : Nat → BitVec 64) (x4 : Option Addr) (x5 : Gs) : List Value := [iI x0.k, uN x1, uH x2, uL x2, uN (x3 0), uN (x3 1), uN (x3 2), uN (x3 3), uN (x3 4), uN (x3 5), uN (x3 6), uN (x3 7), .slice x4 0 0, iI x5.k, uN x5.m, uN x5.x.a, uN x5.x.b, uN x5.x.c, uN x5.x.d, uH x5.s, uL x5.s, uH x5.i, uL x5.i, uH x5.c, uL x5.c, iW x5.k0.toNat, iW x5.k1.toNat, .bool x5.b]
abbrev L99 (x0 : Bd.Gen) (x1 : BitVec 64) (x2 : BitVec 128) (x3 : Nat) (x4 : Gs) (x5 : Nat → BitVec 64) (x6 : Nat) : List Value := [iI x0.k, uN x1, uH x2, uL x2, uN ((Bd.blk x0 x3 x4 x5) 0), uN ((Bd.blk x0 x3 x4 x5) 1), uN ((Bd.blk x0 x3 x4 x5) 2), uN ((Bd.blk x0 x3 x4 x5) 3), uN ((Bd.blk x0 x3 x4 x5) 4), uN ((Bd.blk x0 x3 x4 x5) 5), uN ((Bd.blk x0 x3 x4 x5) 6), uN ((Bd.blk x0 x3 x4 x5) 7), .slice (some ⟨x6, 4 + 0, none⟩) x3 x3, iI ((x0.it x3 x4).k), iU ((x0.it x3 x4).m.toNat), iU ((x0.it x3 x4).x.a.toNat), iU ((x0.it x3 x4).x.b.toNat), iU ((x0.it x3 x4).x.c.toNat), iU ((x0.it x3 x4).x.d.toNat), uH ((x0.it x3 x4).s), uL ((x0.it x3 x4).s), uH ((x0.it x3 x4).i), uL ((x0.it x3 x4).i), uH ((x0.it x3 x4).c), uL ((x0.it x3 x4).c), iW ((x0.it x3 x4).k0.toNat), iW ((x0.it x3 x4).k1.toNat), .bool ((x0.it x3 x4).b)]
abbrev L100 : Value := .agg #[uN (Wd.hi 8#128), uN (Wd.lo 8#128)]
abbrev L101 (x0 : Bd.Gen) (x1 : Nat) (x2 : Gs) : Value := .agg #[iI ((x0.it x1 x2).k), iU ((x0.it x1 x2).m.toNat), iU ((x0.it x1 x2).x.a.toNat), iU ((x0.it x1 x2).x.b.toNat), iU ((x0.it x1 x2).x.c.toNat), iU ((x0.it x1 x2).x.d.toNat), uH ((x0.it x1 x2).s), uL ((x0.it x1 x2).s), uH ((x0.it x1 x2).i), uL ((x0.it x1 x2).i), uH ((x0.it x1 x2).c), uL ((x0.it x1 x2).c), iW ((x0.it x1 x2).k0.toNat), iW ((x0.it x1 x2).k1.toNat), .bool ((x0.it x1 x2).b)]
abbrev L103 (x0 : Gs) (x1 : Nat) : List Value := [.agg #[iI x0.k, uN x0.m, uN x0.x.a, uN x0.x.b, uN x0.x.c, uN x0.x.d, uH x0.s, uL x0.s, uH x0.i, uL x0.i, uH x0.c, uL x0.c, iW x0.k0.toNat, iW x0.k1.toNat, .bool x0.b], iI x1]
abbrev L104 (x0 : Bd.Gen) (x1 : Nat) (x2 : Gs) : List Value := [iI ((x0.it x1 x2).k), iU ((x0.it x1 x2).m.toNat), iU ((x0.it x1 x2).x.a.toNat), iU ((x0.it x1 x2).x.b.toNat), iU ((x0.it x1 x2).x.c.toNat), iU ((x0.it x1 x2).x.d.toNat), uH ((x0.it x1 x2).s), uL ((x0.it x1 x2).s), uH ((x0.it x1 x2).i), uL ((x0.it x1 x2).i), uH ((x0.it x1 x2).c), uL ((x0.it x1 x2).c), iW ((x0.it x1 x2).k0.toNat), iW ((x0.it x1 x2).k1.toNat), .bool ((x0.it x1 x2).b)]
abbrev L105 (x0 : Bd.Gen) (x1 : BitVec 64) (x2 : BitVec 128) (x3 : Nat) (x4 : Gs) (x5 : Nat → BitVec 64) (x6 : Option Addr) : List Value := [iI x0.k, uN x1, uH x2, uL x2, uN ((Bd.blk x0 x3 x4 x5) 0), uN ((Bd.blk x0 x3 x4 x5) 1), uN ((Bd.blk x0 x3 x4 x5) 2), uN ((Bd.blk x0 x3 x4 x5) 3), uN ((Bd.blk x0 x3 x4 x5) 4), uN ((Bd.blk x0 x3 x4 x5) 5), uN ((Bd.blk x0 x3 x4 x5) 6), uN ((Bd.blk x0 x3 x4 x5) 7), .slice x6 0 0, iI x4.k, uN x4.m, uN x4.x.a, uN x4.x.b, uN x4.x.c, uN x4.x.d, uH x4.s, uL x4.s, uH x4.i, uL x4.i, uH x4.c, uL x4.c, iW x4.k0.toNat, iW x4.k1.toNat, .bool x4.b]
abbrev L106 (x0 : Bd.Gen) (x1 : BitVec 64) (x2 : BitVec 128) (x3 : Nat) (x4 : Gs) (x5 : Nat → BitVec 64) (x6 : Nat) : List Value := [iI x0.k, uN x1, uH x2, uL x2, uN ((Bd.blk x0 x3 x4 x5) 0), uN ((Bd.blk x0 x3 x4 x5) 1), uN ((Bd.blk x0 x3 x4 x5) 2), uN ((Bd.blk x0 x3 x4 x5) 3), uN ((Bd.blk x0 x3 x4 x5) 4), uN ((Bd.blk x0 x3 x4 x5) 5), uN ((Bd.blk x0 x3 x4 x5) 6), uN ((Bd.blk x0 x3 x4 x5) 7), .slice (some ⟨x6, 4 + 0, none⟩) x3 x3, iI x4.k, uN x4.m, uN x4.x.a, uN x4.x.b, uN x4.x.c, uN x4.x.d, uH x4.s, uL x4.s, uH x4.i, uL x4.i, uH x4.c, uL x4.c, iW x4.k0.toNat, iW x4.k1.toNat, .bool x4.b]
theorem cx2002 {p : BitVec 128} {y : Nat → BitVec 64} {z : Gs} {m : Nat} {q : Option Addr} (hz : G.ok z) (h0 : 0 < m) (h8 : m ≤ 8) (hm8 : m = 8) (hbig : ¬ (G.lim - p).toNat < 8) (H : Sx.Own w0 w (Bt g1 (L98 G n p y q z) :: bs) rs K) : Cr 162 #[pT g1 0] w0 w (.tuple #[]) (Bt g1 (L99 G n p m z y g1) :: bs) rs K := by
 refine En Tryz.func162 Tryz.ntmps162 fun A F => ?_
 refine Sp fun _ kk => Zv F (d_move (v := iI m) F (Or.inr rfl) (by rw [hm8]; rfl)) fun A F => ?_
 refine Nl kk (Sx.seq fun K2 hK2 => Sp fun _ kk => Av F fun A F => ?_)
 refine Zx F (Do if_159 F (cx2001 H)) ?_
 rintro _ w ⟨rfl, H⟩ A F
 refine Zb F (d_alloc H rfl [iU 0, iU 0] zero_26) fun g2 A w F H => ?_
 refine Zs 0 [uH (G.lim - p), uL (G.lim - p)] sz_26 F H fun A w F H => ?_
 refine Nl kk (Sx.seq fun K4 hK4 => ?_)
 have F := F.tq [(0, pT g1 0), (2, iI m), (3, pT g2 0)] rfl
 refine Dn F [some (L97 G p), some (.agg #[iU 0, iU 8]), some (iI (Wd.cmp (G.lim - p) 8#128)), some (bF)] (fun L A w => Sx.Own w0 w (Bt g2 [uH (G.lim - p), uL (G.lim - p)] :: Bt g1 (L98 G n p y q z) :: bs) rs K) (H.drew.padG [] [] rfl rfl) ?_ ?_
 ·refine ⟨?_, ?_, ?_, ?_, trivial⟩
  ·exact SV (fun _ _ _ F H => Lr 0 [uH (G.lim - p), uL (G.lim - p)] rw_26 F H)
  ·intro L A w up hun hd F H
   refine step_on rfl (d_call (vs := [iU 8]) (v := .agg #[iU 0, iU 8]) if_15 F H rfl rfl (Calls.val (v := L100) (Calls.val (wofV_c 8#64 _) (by kernel_rfl) (by kernel_rfl)) rfl (by kernel_rfl))) ?_
   rintro xv w' ⟨hx, H⟩
   exact ⟨Cs hx, H⟩
  ·intro L A w up hun hd F H
   refine step_on rfl (Dc if_16 F H (wcmp_c (G.lim - p) 8#128 _)) ?_
   rintro xv w' ⟨hx, H⟩
   exact ⟨Cs hx, H⟩
  ·exact SV (fun _ _ _ F _ => Bn bF F rfl rfl rfl (i_lt (Bd.cmp8_ge hbig)))
 ·intro L A w hL F H
  have H := H.pickN 2 0 [0, 1] []
  have F := F.tq [(0, pT g1 0), (2, iI m), (3, pT g2 0), (13, bF)] rfl
  refine hK4 _ _ (condF F rfl (wp_skip (hK2 _ _ (Sp fun _ kk => ?_))))
  iterate 5 (refine Av F ?_; intro A F)
  refine Zr (mk := fun v => .tuple #[v, (L101 G m z), iI 0]) F (d_callR (vs := (L103 z m)) (mk := fun v => .tuple #[v, (L101 G m z), iI 0]) if_55 F H rfl rfl (G.words_c z hz m (by omega) _)) fun v1 A w F H => ?_
  iterate 4 (refine Av F ?_; intro A F)
  refine Zb F (d_alloc H rfl L79 zero_35) fun g3 A w F H => ?_
  refine Av F fun A F => ?_
  refine Zs 0 (L104 G m z) sz_35 F H fun A w F H => ?_
  refine Av F fun A F => ?_
  refine Nl kk (Sp fun _ kk => ?_)
  iterate 3 (refine Av F ?_; intro A F)
  refine Zv F (d_sliceG (v := sL g1 4 8 8) (lv := none) (hv := none) (mv := none) F rfl rfl rfl rfl rfl (by kernel_rfl)) fun A F => ?_
  refine Av F fun A F => ?_
  refine Zx F (d_copyR (i := 2) (j := 0) (cs := u64s (G.ws m z)) (us := (L105 G n p m z y q)) (m := m) (el_65).1 (by kernel_rfl) F H rfl rfl rfl rfl h0 h8 (Bd.ones_u64s _) rfl (by show 4 + m ≤ 28; omega) (Bd.splice_blk G m h8 z y _ _ _ _ _)) ?_
  rintro _ w ⟨rfl, H⟩ A F
  have H : Sx.Own w0 w (Bt g3 (L104 G m z) :: Bt g2 [uH (G.lim - p), uL (G.lim - p)] :: Bt g1 (L105 G n p m z y q) :: bs) (⟨true, v1, 22, 1, m, (u64s (G.ws m z))⟩ :: rs) K := H
  refine Av F fun A F => ?_
  refine Nl kk ?_
  have F := F.tq [(0, pT g1 0), (5, pT g3 0), (7, iI m)] rfl
  have H := H.pickN 3 1 [0, 2] []
  refine Dn F [some (pT g1 0), some (pT g1 0), some (pT g1 0), some (pT g1 0), some (pT g1 4), some (iI m), some (iI m), some (.slice (some ⟨g1, 4 + 0, none⟩) m m), some (L101 G m z), some (pT g1 0), some (pT g1 12), none, some (pT g1 0), some (pT g1 13), none] (fun L A w => Sx.Own w0 w (Bt g3 (L104 G m z) :: Bt g1 (cond (L 14) (L99 G n p m z y g1) (cond (L 11) (L106 G n p m z y g1) (L105 G n p m z y q))) :: bs) rs K) (H.drew.padG [] [] rfl rfl) ?_ ?_
  ·refine ⟨?_, ?_, ?_, ?_, ?_, ?_, ?_, ?_, ?_, ?_, ?_, ?_, ?_, ?_, ?_, trivial⟩
   ·exact Sa
   ·exact Sa
   ·exact Sa
   ·exact Sa
   ·exact Sa
   ·exact Sa
   ·exact Sa
   ·exact SV (fun _ _ _ F _ => d_sliceG (v := .slice (some ⟨g1, 4 + 0, none⟩) m m) (lv := none) (hv := some (iI m)) (mv := some (iI m)) F rfl rfl rfl rfl rfl (Sx.run_sliceHM el_65 (by kernel_rfl) (by kernel_rfl) (by rw [show Tryz.prog.arrayLen 240 = 8 from by kernel_rfl]; exact h8)))
   ·exact SV (fun _ _ _ F H => Lr 0 (L104 G m z) rw_35 F H)
   ·exact Sa
   ·exact Sa
   ·intro L A w up hun hd F H
    have f11 : L 11 = false := hun
    have f14 : L 14 = false := up 14 11 rfl hun
    rw [f11, f14] at H
    refine step_on rfl (d_store (i := 1) (xs := [.slice (some ⟨g1, 4 + 0, none⟩) m m]) (us := (L106 G n p m z y g1)) sz_65 F H rfl rfl rfl rfl rfl rfl rfl (Nat.le_of_ble_eq_true rfl) rfl) ?_
    intro xv w' H
    exact ⟨Cn, (by show Sx.Own _ _ _ _ _; rw [show Inv.add L 11 14 = false from f14]; exact H)⟩
   ·exact Sa
   ·exact Sa
   ·intro L A w up hun hd F H
    have t11 : L 11 = true := hd 11 rfl
    have f14 : L 14 = false := hun
    rw [t11, f14] at H
    refine step_on rfl (d_store (i := 1) (xs := (L104 G m z)) (us := (L99 G n p m z y g1)) sz_35 F H rfl rfl rfl rfl rfl rfl rfl (Nat.le_of_ble_eq_true rfl) rfl) ?_
    intro xv w' H
    exact ⟨Cn, (by show Sx.Own _ _ _ _ _; rw [show Inv.add L 14 11 = true from t11]; exact H)⟩
  ·intro L A w hL F H
   have t11 : L 11 = true := hL 11 rfl
   have t14 : L 14 = true := hL 14 rfl
   rw [t11, t14] at H
   have H := H.pickN 2 0 [0, 1] []
   have F := F.tq [] rfl
   try dsimp only [Exit.then, Exit.inBlock, Exit.jump, Exit.noGoto]
   refine Sx.end0 F Tryz.results162 ?_
   exact ⟨_, rfl, rfl, H.pickN 2 0 [1] []⟩
theorem cx2003 {p : BitVec 128} {y : Nat → BitVec 64} {z : Gs} {m : Nat} {q : Option Addr} (hz : G.ok z) (h0 : 0 < m) (h8 : m ≤ 8) (hlo : (Wd.lo (G.lim - p)).toNat = m) (hsm : (G.lim - p).toNat < 8) (H : Sx.Own w0 w (Bt g1 (L98 G n p y q z) :: bs) rs K) : Cr 162 #[pT g1 0] w0 w (.tuple #[]) (Bt g1 (L99 G n p m z y g1) :: bs) rs K := by
 refine En Tryz.func162 Tryz.ntmps162 fun A F => ?_
 refine Sp fun _ kk => Av F fun A F => ?_
 refine Nl kk (Sx.seq fun K2 hK2 => Sp fun _ kk => Av F fun A F => ?_)
 refine Zx F (Do if_159 F (cx2001 H)) ?_
 rintro _ w ⟨rfl, H⟩ A F
 refine Zb F (d_alloc H rfl [iU 0, iU 0] zero_26) fun g2 A w F H => ?_
 refine Zs 0 [uH (G.lim - p), uL (G.lim - p)] sz_26 F H fun A w F H => ?_
 refine Nl kk (Sx.seq fun K4 hK4 => ?_)
 have F := F.tq [(0, pT g1 0), (2, iI 8), (3, pT g2 0)] rfl
 refine Dn F [some (L97 G p), some (.agg #[iU 0, iU 8]), some (iI (Wd.cmp (G.lim - p) 8#128)), some (bT)] (fun L A w => Sx.Own w0 w (Bt g2 [uH (G.lim - p), uL (G.lim - p)] :: Bt g1 (L98 G n p y q z) :: bs) rs K) (H.drew.padG [] [] rfl rfl) ?_ ?_
 ·refine ⟨?_, ?_, ?_, ?_, trivial⟩
  ·exact SV (fun _ _ _ F H => Lr 0 [uH (G.lim - p), uL (G.lim - p)] rw_26 F H)
  ·intro L A w up hun hd F H
   refine step_on rfl (d_call (vs := [iU 8]) (v := .agg #[iU 0, iU 8]) if_15 F H rfl rfl (Calls.val (v := L100) (Calls.val (wofV_c 8#64 _) (by kernel_rfl) (by kernel_rfl)) rfl (by kernel_rfl))) ?_
   rintro xv w' ⟨hx, H⟩
   exact ⟨Cs hx, H⟩
  ·intro L A w up hun hd F H
   refine step_on rfl (Dc if_16 F H (wcmp_c (G.lim - p) 8#128 _)) ?_
   rintro xv w' ⟨hx, H⟩
   exact ⟨Cs hx, H⟩
  ·exact SV (fun _ _ _ F _ => Bn bT F rfl rfl rfl (i_lt (Bd.cmp8_lt hsm)))
 ·intro L A w hL F H
  have H := H.pickN 2 0 [0, 1] []
  have F := F.tq [(0, pT g1 0), (2, iI 8), (3, pT g2 0), (13, bT)] rfl
  refine hK4 _ _ (condT F rfl (Sx.plain ?_))
  iterate 2 (refine Av F ?_; intro A F)
  refine Zv F (d_conv (v := iI m) F rfl rfl (c_u64_i64 _ m hlo (by omega))) fun A F => ?_
  refine Av F fun A F => ?_
  refine Sx.nil (hK2 _ _ (Sp fun _ kk => ?_))
  iterate 5 (refine Av F ?_; intro A F)
  refine Zr (mk := fun v => .tuple #[v, (L101 G m z), iI 0]) F (d_callR (vs := (L103 z m)) (mk := fun v => .tuple #[v, (L101 G m z), iI 0]) if_55 F H rfl rfl (G.words_c z hz m (by omega) _)) fun v1 A w F H => ?_
  iterate 4 (refine Av F ?_; intro A F)
  refine Zb F (d_alloc H rfl L79 zero_35) fun g3 A w F H => ?_
  refine Av F fun A F => ?_
  refine Zs 0 (L104 G m z) sz_35 F H fun A w F H => ?_
  refine Av F fun A F => ?_
  refine Nl kk (Sp fun _ kk => ?_)
  iterate 3 (refine Av F ?_; intro A F)
  refine Zv F (d_sliceG (v := sL g1 4 8 8) (lv := none) (hv := none) (mv := none) F rfl rfl rfl rfl rfl (by kernel_rfl)) fun A F => ?_
  refine Av F fun A F => ?_
  refine Zx F (d_copyR (i := 2) (j := 0) (cs := u64s (G.ws m z)) (us := (L105 G n p m z y q)) (m := m) (el_65).1 (by kernel_rfl) F H rfl rfl rfl rfl h0 h8 (Bd.ones_u64s _) rfl (by show 4 + m ≤ 28; omega) (Bd.splice_blk G m h8 z y _ _ _ _ _)) ?_
  rintro _ w ⟨rfl, H⟩ A F
  have H : Sx.Own w0 w (Bt g3 (L104 G m z) :: Bt g2 [uH (G.lim - p), uL (G.lim - p)] :: Bt g1 (L105 G n p m z y q) :: bs) (⟨true, v1, 22, 1, m, (u64s (G.ws m z))⟩ :: rs) K := H
  refine Av F fun A F => ?_
  refine Nl kk ?_
  have F := F.tq [(0, pT g1 0), (5, pT g3 0), (7, iI m)] rfl
  have H := H.pickN 3 1 [0, 2] []
  refine Dn F [some (pT g1 0), some (pT g1 0), some (pT g1 0), some (pT g1 0), some (pT g1 4), some (iI m), some (iI m), some (.slice (some ⟨g1, 4 + 0, none⟩) m m), some (L101 G m z), some (pT g1 0), some (pT g1 12), none, some (pT g1 0), some (pT g1 13), none] (fun L A w => Sx.Own w0 w (Bt g3 (L104 G m z) :: Bt g1 (cond (L 14) (L99 G n p m z y g1) (cond (L 11) (L106 G n p m z y g1) (L105 G n p m z y q))) :: bs) rs K) (H.drew.padG [] [] rfl rfl) ?_ ?_
  ·refine ⟨?_, ?_, ?_, ?_, ?_, ?_, ?_, ?_, ?_, ?_, ?_, ?_, ?_, ?_, ?_, trivial⟩
   ·exact Sa
   ·exact Sa
   ·exact Sa
   ·exact Sa
   ·exact Sa
   ·exact Sa
   ·exact Sa
   ·exact SV (fun _ _ _ F _ => d_sliceG (v := .slice (some ⟨g1, 4 + 0, none⟩) m m) (lv := none) (hv := some (iI m)) (mv := some (iI m)) F rfl rfl rfl rfl rfl (Sx.run_sliceHM el_65 (by kernel_rfl) (by kernel_rfl) (by rw [show Tryz.prog.arrayLen 240 = 8 from by kernel_rfl]; exact h8)))
   ·exact SV (fun _ _ _ F H => Lr 0 (L104 G m z) rw_35 F H)
   ·exact Sa
   ·exact Sa
   ·intro L A w up hun hd F H
    have f11 : L 11 = false := hun
    have f14 : L 14 = false := up 14 11 rfl hun
    rw [f11, f14] at H
    refine step_on rfl (d_store (i := 1) (xs := [.slice (some ⟨g1, 4 + 0, none⟩) m m]) (us := (L106 G n p m z y g1)) sz_65 F H rfl rfl rfl rfl rfl rfl rfl (Nat.le_of_ble_eq_true rfl) rfl) ?_
    intro xv w' H
    exact ⟨Cn, (by show Sx.Own _ _ _ _ _; rw [show Inv.add L 11 14 = false from f14]; exact H)⟩
   ·exact Sa
   ·exact Sa
   ·intro L A w up hun hd F H
    have t11 : L 11 = true := hd 11 rfl
    have f14 : L 14 = false := hun
    rw [t11, f14] at H
    refine step_on rfl (d_store (i := 1) (xs := (L104 G m z)) (us := (L99 G n p m z y g1)) sz_35 F H rfl rfl rfl rfl rfl rfl rfl (Nat.le_of_ble_eq_true rfl) rfl) ?_
    intro xv w' H
    exact ⟨Cn, (by show Sx.Own _ _ _ _ _; rw [show Inv.add L 14 11 = true from t11]; exact H)⟩
  ·intro L A w hL F H
   have t11 : L 11 = true := hL 11 rfl
   have t14 : L 14 = true := hL 14 rfl
   rw [t11, t14] at H
   have H := H.pickN 2 0 [0, 1] []
   have F := F.tq [] rfl
   try dsimp only [Exit.then, Exit.inBlock, Exit.jump, Exit.noGoto]
   refine Sx.end0 F Tryz.results162 ?_
   exact ⟨_, rfl, rfl, H.pickN 2 0 [1] []⟩
theorem curfill_c {w0 w : World} {bs : List Sx.Bx} {rs : List Sx.Rx} {K : Nat → Option Obj} {G : Bd.Gen} {n : BitVec 64} {p : BitVec 128} {y : Nat → BitVec 64} {q : Option Addr} {z : Gs} {m g1 : Nat} (hz : G.ok z) (h0 : 0 < m) (h8 : m ≤ 8) (hmin : m = min 8 (G.lim - p).toNat) (H : Sx.Own w0 w (Bt g1 [.int .i64 G.k, .int .u64 n.toNat, .int .u64 ((Wd.hi p).toNat), .int .u64 ((Wd.lo p).toNat), .int .u64 ((y 0).toNat), .int .u64 ((y 1).toNat), .int .u64 ((y 2).toNat), .int .u64 ((y 3).toNat), .int .u64 ((y 4).toNat), .int .u64 ((y 5).toNat), .int .u64 ((y 6).toNat), .int .u64 ((y 7).toNat), .slice q 0 0, .int .i64 z.k, .int .u64 z.m.toNat, .int .u64 z.x.a.toNat, .int .u64 z.x.b.toNat, .int .u64 z.x.c.toNat, .int .u64 z.x.d.toNat, .int .u64 ((Wd.hi z.s).toNat), .int .u64 ((Wd.lo z.s).toNat), .int .u64 ((Wd.hi z.i).toNat), .int .u64 ((Wd.lo z.i).toNat), .int .u64 ((Wd.hi z.c).toNat), .int .u64 ((Wd.lo z.c).toNat), .int .u32 z.k0.toNat, .int .u32 z.k1.toNat, .bool z.b] :: bs) rs K) : Calls Tryz.prog 162 #[.pointer (some ⟨g1, 0, none⟩)] w fun e w' => ∃ x, e = .returned x ∧ x = .tuple #[] ∧ Sx.Own w0 w' (Bt g1 [.int .i64 G.k, .int .u64 n.toNat, .int .u64 ((Wd.hi p).toNat), .int .u64 ((Wd.lo p).toNat), .int .u64 (((Bd.blk G m z y) 0).toNat), .int .u64 (((Bd.blk G m z y) 1).toNat), .int .u64 (((Bd.blk G m z y) 2).toNat), .int .u64 (((Bd.blk G m z y) 3).toNat), .int .u64 (((Bd.blk G m z y) 4).toNat), .int .u64 (((Bd.blk G m z y) 5).toNat), .int .u64 (((Bd.blk G m z y) 6).toNat), .int .u64 (((Bd.blk G m z y) 7).toNat), .slice (some ⟨g1, 4 + 0, none⟩) m m, .int .i64 ((G.it m z).k), .int .u64 ((G.it m z).m.toNat), .int .u64 ((G.it m z).x.a.toNat), .int .u64 ((G.it m z).x.b.toNat), .int .u64 ((G.it m z).x.c.toNat), .int .u64 ((G.it m z).x.d.toNat), .int .u64 ((Wd.hi ((G.it m z).s)).toNat), .int .u64 ((Wd.lo ((G.it m z).s)).toNat), .int .u64 ((Wd.hi ((G.it m z).i)).toNat), .int .u64 ((Wd.lo ((G.it m z).i)).toNat), .int .u64 ((Wd.hi ((G.it m z).c)).toNat), .int .u64 ((Wd.lo ((G.it m z).c)).toNat), .int .u32 ((G.it m z).k0.toNat), .int .u32 ((G.it m z).k1.toNat), .bool ((G.it m z).b)] :: bs) rs K := by
  by_cases hsm : (G.lim - p).toNat < 8
  · have hlo : (Wd.lo (G.lim - p)).toNat = m := by rw [Bd.lo_small hsm]; omega
    exact cx2003 hz h0 h8 hlo hsm H
  · have hm8 : m = 8 := by omega
    have hbig := hsm
    exact cx2002 hz h0 h8 hm8 hbig H
theorem cx2004 {p : BitVec 128} {y : Nat → BitVec 64} {z : Gs} {r : Nat} {o : Nat} (hr : 0 < r) (ho : o < 8) (hpl : p.toNat < G.lim.toNat) (H : Sx.Own w0 w (Bt g1 [iI G.k, uN n, uH p, uL p, uN (y 0), uN (y 1), uN (y 2), uN (y 3), uN (y 4), uN (y 5), uN (y 6), uN (y 7), .slice (some ⟨g1, 4 + o, none⟩) r r, iI z.k, uN z.m, uN z.x.a, uN z.x.b, uN z.x.c, uN z.x.d, uH z.s, uL z.s, uH z.i, uL z.i, uH z.c, uL z.c, iW z.k0.toNat, iW z.k1.toNat, .bool z.b] :: bs) rs K) : Cr 157 #[pT g1 0] w0 w (.tuple #[uN (y o), iI 0]) (Bt g1 [iI G.k, uN n, uH (p + 1#128), uL (p + 1#128), uN (y 0), uN (y 1), uN (y 2), uN (y 3), uN (y 4), uN (y 5), uN (y 6), uN (y 7), .slice (if r = 1 then some ⟨g1, 4 + o, none⟩ else some ⟨g1, 4 + o + 1 * 1, none⟩) (r - 1) (r - 1), iI z.k, uN z.m, uN z.x.a, uN z.x.b, uN z.x.c, uN z.x.d, uH z.s, uL z.s, uH z.i, uL z.i, uH z.c, uL z.c, iW z.k0.toNat, iW z.k1.toNat, .bool z.b] :: bs) rs K := by
 refine En Tryz.func157 Tryz.ntmps157 fun A F => ?_
 refine Sp fun _ kk => ?_
 iterate 2 (refine Av F ?_; intro A F)
 refine Nl kk (Sx.seq fun K2 hK2 => Sp fun _ kk => Av F fun A F => ?_)
 refine Zx F (Do if_159 F (cx2001 H)) ?_
 rintro _ w ⟨rfl, H⟩ A F
 refine Zv F (d_build (qs := #[]) (v := .agg #[iU 0, iU 0]) F rfl rfl (by kernel_rfl)) fun A F => ?_
 refine Zv F (Bn bF F rfl rfl rfl (i_eqV (Bd.left_ne hpl))) fun A F => ?_
 refine Nl kk (condF F rfl (wp_skip (hK2 _ _ (Sx.seq fun K4 hK4 => Sp fun _ kk => ?_))))
 iterate 4 (refine Av F ?_; intro A F)
 refine Zv F (d_lenS el_65 F rfl rfl) fun A F => ?_
 refine Zv F (Bn bF F rfl rfl rfl (i_eq (beq_false_of_ne (by omega)))) fun A F => ?_
 refine Nl kk (condF F rfl (wp_skip (hK4 _ _ (Sp fun _ kk => ?_))))
 iterate 4 (refine Av F ?_; intro A F)
 refine Zv F (d_ix1 (k := 0) (g := g1) (off := 4 + o) el_65 F rfl rfl rfl rfl rfl hr) fun A F => ?_
 refine Zv F (d_load1 (i := 0) (k := 4 + o + 0) (v := uN (y o)) one_22 F H rfl rfl rfl (Bd.at_blk o ho y _ _ _ _ _)) fun A F => ?_
 refine Av F fun A F => ?_
 refine Nl kk (Sp fun _ kk => ?_)
 iterate 5 (refine Av F ?_; intro A F)
 refine Zv F (d_sliceL (l := 1) (g := g1) (off := 4 + o) (len := r) (cap := r) el_65 F rfl rfl rfl rfl (by omega)) fun A F => ?_
 iterate 2 (refine Av F ?_; intro A F)
 refine Zs 0 [iI G.k, uN n, uH p, uL p, uN (y 0), uN (y 1), uN (y 2), uN (y 3), uN (y 4), uN (y 5), uN (y 6), uN (y 7), .slice (if r = 1 then some ⟨g1, 4 + o, none⟩ else some ⟨g1, 4 + o + 1 * 1, none⟩) (r - 1) (r - 1), iI z.k, uN z.m, uN z.x.a, uN z.x.b, uN z.x.c, uN z.x.d, uH z.s, uL z.s, uH z.i, uL z.i, uH z.c, uL z.c, iW z.k0.toNat, iW z.k1.toNat, .bool z.b] sz_65 F H fun A w F H => ?_
 refine Nl kk (Sx.seq fun K8 hK8 => ?_)
 have F := F.tq [(0, pT g1 0), (2, iU 0), (3, iI 0), (4, uN (y o))] rfl
 refine Dn F [some (pT g1 0), some (pT g1 0), some (pT g1 0), some (pT g1 2), some (.agg #[uH p, uL p]), some (.agg #[iU 0, iU 1]), some (L29 p), some (L29 p), some (L28 p), some (.bool (Wd.over p 1#128)), some (pT g1 0), some (pT g1 2), none] (fun L A w => Sx.Own w0 w (Bt g1 (cond (L 12) [iI G.k, uN n, uH (p + 1#128), uL (p + 1#128), uN (y 0), uN (y 1), uN (y 2), uN (y 3), uN (y 4), uN (y 5), uN (y 6), uN (y 7), .slice (if r = 1 then some ⟨g1, 4 + o, none⟩ else some ⟨g1, 4 + o + 1 * 1, none⟩) (r - 1) (r - 1), iI z.k, uN z.m, uN z.x.a, uN z.x.b, uN z.x.c, uN z.x.d, uH z.s, uL z.s, uH z.i, uL z.i, uH z.c, uL z.c, iW z.k0.toNat, iW z.k1.toNat, .bool z.b] [iI G.k, uN n, uH p, uL p, uN (y 0), uN (y 1), uN (y 2), uN (y 3), uN (y 4), uN (y 5), uN (y 6), uN (y 7), .slice (if r = 1 then some ⟨g1, 4 + o, none⟩ else some ⟨g1, 4 + o + 1 * 1, none⟩) (r - 1) (r - 1), iI z.k, uN z.m, uN z.x.a, uN z.x.b, uN z.x.c, uN z.x.d, uH z.s, uL z.s, uH z.i, uL z.i, uH z.c, uL z.c, iW z.k0.toNat, iW z.k1.toNat, .bool z.b]) :: bs) rs K) (H.drew.padG [] [] rfl rfl) ?_ ?_
 ·refine ⟨?_, ?_, ?_, ?_, ?_, ?_, ?_, ?_, ?_, ?_, ?_, ?_, ?_, trivial⟩
  ·exact Sa
  ·exact Sa
  ·exact Sa
  ·exact Sa
  ·intro L A w up hun hd F H
   have f12 : L 12 = false := up 12 4 rfl hun
   have Hj := H; rw [f12] at Hj
   refine step_on rfl (Lr 0 [uH p, uL p] rw_26 F Hj) ?_
   rintro xv w' ⟨hx, rfl⟩
   exact ⟨Cs hx, H⟩
  ·intro L A w up hun hd F H
   have f12 : L 12 = false := up 12 5 rfl hun
   rw [f12] at H
   refine step_on rfl (d_call (vs := [iU 1]) (v := .agg #[iU 0, iU 1]) if_15 F H rfl rfl (Calls.val (v := L17) (Calls.val (wofV_c 1#64 _) (by kernel_rfl) (by kernel_rfl)) rfl (by kernel_rfl))) ?_
   rintro xv w' ⟨hx, H⟩
   exact ⟨Cs hx, (by show Sx.Own _ _ _ _ _; rw [show Inv.add L 5 12 = false from f12]; exact H)⟩
  ·intro L A w up hun hd F H
   have f12 : L 12 = false := up 12 6 rfl hun
   rw [f12] at H
   refine step_on rfl (Dc if_14 F H (wadd_c p 1#128 _)) ?_
   rintro xv w' ⟨hx, H⟩
   exact ⟨Cs hx, (by show Sx.Own _ _ _ _ _; rw [show Inv.add L 6 12 = false from f12]; exact H)⟩
  ·exact Sa
  ·exact Sa
  ·exact Sa
  ·exact Sa
  ·exact Sa
  ·intro L A w up hun hd F H
   have f12 : L 12 = false := hun
   rw [f12] at H
   refine step_on rfl (d_store (i := 0) (xs := [uH (p + 1#128), uL (p + 1#128)]) (us := [iI G.k, uN n, uH (p + 1#128), uL (p + 1#128), uN (y 0), uN (y 1), uN (y 2), uN (y 3), uN (y 4), uN (y 5), uN (y 6), uN (y 7), .slice (if r = 1 then some ⟨g1, 4 + o, none⟩ else some ⟨g1, 4 + o + 1 * 1, none⟩) (r - 1) (r - 1), iI z.k, uN z.m, uN z.x.a, uN z.x.b, uN z.x.c, uN z.x.d, uH z.s, uL z.s, uH z.i, uL z.i, uH z.c, uL z.c, iW z.k0.toNat, iW z.k1.toNat, .bool z.b]) sz_26 F H rfl rfl rfl rfl rfl rfl rfl (Nat.le_of_ble_eq_true rfl) rfl) ?_
   intro xv w' H
   exact ⟨Cn, H⟩
 ·intro L A w hL F H
  have t12 : L 12 = true := hL 12 rfl
  rw [t12] at H
  have H := H.pickN 1 0 [0] []
  have F := F.tq [(2, iU 0), (3, iI 0), (4, uN (y o))] rfl
  refine hK8 _ _ (Sp fun _ kk => ?_)
  iterate 3 (refine Av F ?_; intro A F)
  refine Nl kk (Wr (ret2 F Tryz.results157 (res_tmp F rfl) (res_tmp F rfl) ?_))
  exact ⟨_, rfl, rfl, H.pickN 1 0 [0] []⟩
theorem cx2005 {p : BitVec 128} {y : Nat → BitVec 64} {z : Gs} {m : Nat} {q : Option Addr} (hz : G.ok z) (h0 : 0 < m) (h8 : m ≤ 8) (hpl : p.toNat < G.lim.toNat) (hmin : m = min 8 (G.lim - p).toNat) (H : Sx.Own w0 w (Bt g1 (L98 G n p y q z) :: bs) rs K) : Cr 157 #[pT g1 0] w0 w (.tuple #[uN ((Bd.blk G m z y) 0), iI 0]) (Bt g1 [iI G.k, uN n, uH (p + 1#128), uL (p + 1#128), uN ((Bd.blk G m z y) 0), uN ((Bd.blk G m z y) 1), uN ((Bd.blk G m z y) 2), uN ((Bd.blk G m z y) 3), uN ((Bd.blk G m z y) 4), uN ((Bd.blk G m z y) 5), uN ((Bd.blk G m z y) 6), uN ((Bd.blk G m z y) 7), .slice (if m = 1 then some ⟨g1, 4 + 0, none⟩ else some ⟨g1, 4 + 0 + 1 * 1, none⟩) (m - 1) (m - 1), iI ((G.it m z).k), iU ((G.it m z).m.toNat), iU ((G.it m z).x.a.toNat), iU ((G.it m z).x.b.toNat), iU ((G.it m z).x.c.toNat), iU ((G.it m z).x.d.toNat), uH ((G.it m z).s), uL ((G.it m z).s), uH ((G.it m z).i), uL ((G.it m z).i), uH ((G.it m z).c), uL ((G.it m z).c), iW ((G.it m z).k0.toNat), iW ((G.it m z).k1.toNat), .bool ((G.it m z).b)] :: bs) rs K := by
 refine En Tryz.func157 Tryz.ntmps157 fun A F => ?_
 refine Sp fun _ kk => ?_
 iterate 2 (refine Av F ?_; intro A F)
 refine Nl kk (Sx.seq fun K2 hK2 => Sp fun _ kk => Av F fun A F => ?_)
 refine Zx F (Do if_159 F (cx2001 H)) ?_
 rintro _ w ⟨rfl, H⟩ A F
 refine Zv F (d_build (qs := #[]) (v := .agg #[iU 0, iU 0]) F rfl rfl (by kernel_rfl)) fun A F => ?_
 refine Zv F (Bn bF F rfl rfl rfl (i_eqV (Bd.left_ne hpl))) fun A F => ?_
 refine Nl kk (condF F rfl (wp_skip (hK2 _ _ (Sx.seq fun K4 hK4 => Sp fun _ kk => ?_))))
 iterate 4 (refine Av F ?_; intro A F)
 refine Zv F (d_lenS el_65 F rfl rfl) fun A F => ?_
 refine Av F fun A F => ?_
 refine Nl kk (condT F rfl (Sx.plain ?_))
 refine Av F fun A F => ?_
 refine Zx F (d_callO (vs := [pT g1 0]) if_162 F rfl rfl (curfill_c hz h0 h8 hmin H)) ?_
 rintro _ w ⟨rfl, H⟩ A F
 refine Sx.nil (hK4 _ _ (Sp fun _ kk => ?_))
 iterate 4 (refine Av F ?_; intro A F)
 refine Zv F (d_ix1 (k := 0) (g := g1) (off := 4 + 0) el_65 F rfl rfl rfl rfl rfl h0) fun A F => ?_
 refine Zv F (d_load1 (i := 0) (k := 4 + 0 + 0) (v := uN ((Bd.blk G m z y) 0)) one_22 F H rfl rfl rfl (Bd.at_blk 0 (by decide) (Bd.blk G m z y) _ _ _ _ _)) fun A F => ?_
 refine Av F fun A F => ?_
 refine Nl kk (Sp fun _ kk => ?_)
 iterate 5 (refine Av F ?_; intro A F)
 refine Zv F (d_sliceL (l := 1) (g := g1) (off := 4 + 0) (len := m) (cap := m) el_65 F rfl rfl rfl rfl (by omega)) fun A F => ?_
 iterate 2 (refine Av F ?_; intro A F)
 refine Zs 0 [iI G.k, uN n, uH p, uL p, uN ((Bd.blk G m z y) 0), uN ((Bd.blk G m z y) 1), uN ((Bd.blk G m z y) 2), uN ((Bd.blk G m z y) 3), uN ((Bd.blk G m z y) 4), uN ((Bd.blk G m z y) 5), uN ((Bd.blk G m z y) 6), uN ((Bd.blk G m z y) 7), .slice (if m = 1 then some ⟨g1, 4 + 0, none⟩ else some ⟨g1, 4 + 0 + 1 * 1, none⟩) (m - 1) (m - 1), iI ((G.it m z).k), iU ((G.it m z).m.toNat), iU ((G.it m z).x.a.toNat), iU ((G.it m z).x.b.toNat), iU ((G.it m z).x.c.toNat), iU ((G.it m z).x.d.toNat), uH ((G.it m z).s), uL ((G.it m z).s), uH ((G.it m z).i), uL ((G.it m z).i), uH ((G.it m z).c), uL ((G.it m z).c), iW ((G.it m z).k0.toNat), iW ((G.it m z).k1.toNat), .bool ((G.it m z).b)] sz_65 F H fun A w F H => ?_
 refine Nl kk (Sx.seq fun K8 hK8 => ?_)
 have F := F.tq [(0, pT g1 0), (2, iU 0), (3, iI 0), (4, uN ((Bd.blk G m z y) 0))] rfl
 refine Dn F [some (pT g1 0), some (pT g1 0), some (pT g1 0), some (pT g1 2), some (.agg #[uH p, uL p]), some (.agg #[iU 0, iU 1]), some (L29 p), some (L29 p), some (L28 p), some (.bool (Wd.over p 1#128)), some (pT g1 0), some (pT g1 2), none] (fun L A w => Sx.Own w0 w (Bt g1 (cond (L 12) [iI G.k, uN n, uH (p + 1#128), uL (p + 1#128), uN ((Bd.blk G m z y) 0), uN ((Bd.blk G m z y) 1), uN ((Bd.blk G m z y) 2), uN ((Bd.blk G m z y) 3), uN ((Bd.blk G m z y) 4), uN ((Bd.blk G m z y) 5), uN ((Bd.blk G m z y) 6), uN ((Bd.blk G m z y) 7), .slice (if m = 1 then some ⟨g1, 4 + 0, none⟩ else some ⟨g1, 4 + 0 + 1 * 1, none⟩) (m - 1) (m - 1), iI ((G.it m z).k), iU ((G.it m z).m.toNat), iU ((G.it m z).x.a.toNat), iU ((G.it m z).x.b.toNat), iU ((G.it m z).x.c.toNat), iU ((G.it m z).x.d.toNat), uH ((G.it m z).s), uL ((G.it m z).s), uH ((G.it m z).i), uL ((G.it m z).i), uH ((G.it m z).c), uL ((G.it m z).c), iW ((G.it m z).k0.toNat), iW ((G.it m z).k1.toNat), .bool ((G.it m z).b)] [iI G.k, uN n, uH p, uL p, uN ((Bd.blk G m z y) 0), uN ((Bd.blk G m z y) 1), uN ((Bd.blk G m z y) 2), uN ((Bd.blk G m z y) 3), uN ((Bd.blk G m z y) 4), uN ((Bd.blk G m z y) 5), uN ((Bd.blk G m z y) 6), uN ((Bd.blk G m z y) 7), .slice (if m = 1 then some ⟨g1, 4 + 0, none⟩ else some ⟨g1, 4 + 0 + 1 * 1, none⟩) (m - 1) (m - 1), iI ((G.it m z).k), iU ((G.it m z).m.toNat), iU ((G.it m z).x.a.toNat), iU ((G.it m z).x.b.toNat), iU ((G.it m z).x.c.toNat), iU ((G.it m z).x.d.toNat), uH ((G.it m z).s), uL ((G.it m z).s), uH ((G.it m z).i), uL ((G.it m z).i), uH ((G.it m z).c), uL ((G.it m z).c), iW ((G.it m z).k0.toNat), iW ((G.it m z).k1.toNat), .bool ((G.it m z).b)]) :: bs) rs K) (H.drew.padG [] [] rfl rfl) ?_ ?_
 ·refine ⟨?_, ?_, ?_, ?_, ?_, ?_, ?_, ?_, ?_, ?_, ?_, ?_, ?_, trivial⟩
  ·exact Sa
  ·exact Sa
  ·exact Sa
  ·exact Sa
  ·intro L A w up hun hd F H
   have f12 : L 12 = false := up 12 4 rfl hun
   have Hj := H; rw [f12] at Hj
   refine step_on rfl (Lr 0 [uH p, uL p] rw_26 F Hj) ?_
   rintro xv w' ⟨hx, rfl⟩
   exact ⟨Cs hx, H⟩
  ·intro L A w up hun hd F H
   have f12 : L 12 = false := up 12 5 rfl hun
   rw [f12] at H
   refine step_on rfl (d_call (vs := [iU 1]) (v := .agg #[iU 0, iU 1]) if_15 F H rfl rfl (Calls.val (v := L17) (Calls.val (wofV_c 1#64 _) (by kernel_rfl) (by kernel_rfl)) rfl (by kernel_rfl))) ?_
   rintro xv w' ⟨hx, H⟩
   exact ⟨Cs hx, (by show Sx.Own _ _ _ _ _; rw [show Inv.add L 5 12 = false from f12]; exact H)⟩
  ·intro L A w up hun hd F H
   have f12 : L 12 = false := up 12 6 rfl hun
   rw [f12] at H
   refine step_on rfl (Dc if_14 F H (wadd_c p 1#128 _)) ?_
   rintro xv w' ⟨hx, H⟩
   exact ⟨Cs hx, (by show Sx.Own _ _ _ _ _; rw [show Inv.add L 6 12 = false from f12]; exact H)⟩
  ·exact Sa
  ·exact Sa
  ·exact Sa
  ·exact Sa
  ·exact Sa
  ·intro L A w up hun hd F H
   have f12 : L 12 = false := hun
   rw [f12] at H
   refine step_on rfl (d_store (i := 0) (xs := [uH (p + 1#128), uL (p + 1#128)]) (us := [iI G.k, uN n, uH (p + 1#128), uL (p + 1#128), uN ((Bd.blk G m z y) 0), uN ((Bd.blk G m z y) 1), uN ((Bd.blk G m z y) 2), uN ((Bd.blk G m z y) 3), uN ((Bd.blk G m z y) 4), uN ((Bd.blk G m z y) 5), uN ((Bd.blk G m z y) 6), uN ((Bd.blk G m z y) 7), .slice (if m = 1 then some ⟨g1, 4 + 0, none⟩ else some ⟨g1, 4 + 0 + 1 * 1, none⟩) (m - 1) (m - 1), iI ((G.it m z).k), iU ((G.it m z).m.toNat), iU ((G.it m z).x.a.toNat), iU ((G.it m z).x.b.toNat), iU ((G.it m z).x.c.toNat), iU ((G.it m z).x.d.toNat), uH ((G.it m z).s), uL ((G.it m z).s), uH ((G.it m z).i), uL ((G.it m z).i), uH ((G.it m z).c), uL ((G.it m z).c), iW ((G.it m z).k0.toNat), iW ((G.it m z).k1.toNat), .bool ((G.it m z).b)]) sz_26 F H rfl rfl rfl rfl rfl rfl rfl (Nat.le_of_ble_eq_true rfl) rfl) ?_
   intro xv w' H
   exact ⟨Cn, H⟩
 ·intro L A w hL F H
  have t12 : L 12 = true := hL 12 rfl
  rw [t12] at H
  have H := H.pickN 1 0 [0] []
  have F := F.tq [(2, iU 0), (3, iI 0), (4, uN ((Bd.blk G m z y) 0))] rfl
  refine hK8 _ _ (Sp fun _ kk => ?_)
  iterate 3 (refine Av F ?_; intro A F)
  refine Nl kk (Wr (ret2 F Tryz.results157 (res_tmp F rfl) (res_tmp F rfl) ?_))
  exact ⟨_, rfl, rfl, H.pickN 1 0 [0] []⟩
theorem curnext_c {w0 w : World} {bs : List Sx.Bx} {rs : List Sx.Rx} {K : Nat → Option Obj} {G : Bd.Gen} {n : BitVec 64} {at' p : BitVec 128} {y : Nat → BitVec 64} {bv : Value} {z : Gs} {g1 : Nat} (hB : Bd.Buf G n at' g1 p y bv z) (hpl : p.toNat < G.lim.toNat) (H : Sx.Own w0 w (Bt g1 [.int .i64 G.k, .int .u64 n.toNat, .int .u64 ((Wd.hi p).toNat), .int .u64 ((Wd.lo p).toNat), .int .u64 ((y 0).toNat), .int .u64 ((y 1).toNat), .int .u64 ((y 2).toNat), .int .u64 ((y 3).toNat), .int .u64 ((y 4).toNat), .int .u64 ((y 5).toNat), .int .u64 ((y 6).toNat), .int .u64 ((y 7).toNat), bv, .int .i64 z.k, .int .u64 z.m.toNat, .int .u64 z.x.a.toNat, .int .u64 z.x.b.toNat, .int .u64 z.x.c.toNat, .int .u64 z.x.d.toNat, .int .u64 ((Wd.hi z.s).toNat), .int .u64 ((Wd.lo z.s).toNat), .int .u64 ((Wd.hi z.i).toNat), .int .u64 ((Wd.lo z.i).toNat), .int .u64 ((Wd.hi z.c).toNat), .int .u64 ((Wd.lo z.c).toNat), .int .u32 z.k0.toNat, .int .u32 z.k1.toNat, .bool z.b] :: bs) rs K) : Calls Tryz.prog 157 #[.pointer (some ⟨g1, 0, none⟩)] w fun e w' => ∃ x, e = .returned x ∧ ∃ (y1 : Nat → BitVec 64) (v1 : Value) (z1 : Gs), Bd.Buf G n at' g1 (p + 1#128) y1 v1 z1 ∧ x = .tuple #[.int .u64 (Bd.wd G n at' p).toNat, .int .i64 0] ∧ Sx.Own w0 w' (Bt g1 [.int .i64 G.k, .int .u64 n.toNat, .int .u64 ((Wd.hi (p + 1#128)).toNat), .int .u64 ((Wd.lo (p + 1#128)).toNat), .int .u64 ((y1 0).toNat), .int .u64 ((y1 1).toNat), .int .u64 ((y1 2).toNat), .int .u64 ((y1 3).toNat), .int .u64 ((y1 4).toNat), .int .u64 ((y1 5).toNat), .int .u64 ((y1 6).toNat), .int .u64 ((y1 7).toNat), v1, .int .i64 z1.k, .int .u64 z1.m.toNat, .int .u64 z1.x.a.toNat, .int .u64 z1.x.b.toNat, .int .u64 z1.x.c.toNat, .int .u64 z1.x.d.toNat, .int .u64 ((Wd.hi z1.s).toNat), .int .u64 ((Wd.lo z1.s).toNat), .int .u64 ((Wd.hi z1.i).toNat), .int .u64 ((Wd.lo z1.i).toNat), .int .u64 ((Wd.hi z1.c).toNat), .int .u64 ((Wd.lo z1.c).toNat), .int .u32 z1.k0.toNat, .int .u32 z1.k1.toNat, .bool z1.b] :: bs) rs K := by
  have hz : G.ok z := Bd.Buf.ok G hB
  obtain ⟨r, o, hb, h8, h1, h2, hz', hy⟩ := id hB
  rcases hb with ⟨hr0, q, rfl⟩ | ⟨hr, rfl⟩
  · have hs := Bd.sub_nat (Nat.le_of_lt hpl)
    obtain ⟨m, hmin⟩ : ∃ m, m = min 8 (G.lim - p).toNat := ⟨_, rfl⟩
    have h0 : 0 < m := by omega
    have h8 : m ≤ 8 := by omega
    have hB2 := Bd.Buf.filled G hB h0 h8 (by omega)
    obtain ⟨hB3, hw⟩ := Bd.Buf.next G rfl hB2 h0
    refine (cx2005 hz h0 h8 hpl hmin H).mono ?_
    rintro e w' ⟨x, rfl, rfl, H⟩
    exact ⟨_, rfl, _, _, _, hB3, by rw [hw], H⟩
  · have ho : o < 8 := by omega
    obtain ⟨hB3, hw⟩ := Bd.Buf.next G rfl hB hr
    refine (cx2004 hr ho hpl H).mono ?_
    rintro e w' ⟨x, rfl, rfl, H⟩
    exact ⟨_, rfl, _, _, _, hB3, by rw [hw], H⟩
end
namespace Bd
def rest (b : BitVec 64) : BitVec 64 := (-b) % b
def val (x b : BitVec 64) : BitVec 64 := Wd.hi (Wd.full x b)
def taken (x b : BitVec 64) : Bool := !decide (((Wd.lo (Wd.full x b)).toNat : Int) < ((rest b).toNat : Int))
theorem i_neg64 {P : Program} {w : World} (a : BitVec 64) : (Op.unary .neg (.int .u64 (a.toNat : Nat))).run P w = .ok (.int .u64 ((-a).toNat : Nat)) w := by
  have h : IntKind.u64.wrap (-(a.toNat : Int)) = ((-a).toNat : Nat) := by
    rw [IntKind.wrap_u64, BitVec.toNat_neg]; have := a.isLt; omega
  simp [Op.unary, go_sem, h]
end Bd
open Sx in
theorem brest_c (b : BitVec 64) (hb : b.toNat ≠ 0) (w0 : World) : Calls Tryz.prog 58 #[uN b] w0 fun e w' => e = .returned (uN (Bd.rest b)) ∧ Below w0.heap.size w0 w' := by
 refine En Tryz.func58 Tryz.ntmps58 fun A F => ?_
 have H := Sx.Own.start w0
 refine Sp fun _ kk => Av F fun A F => ?_
 refine Nl kk (Sp fun _ kk => Av F fun A F => ?_)
 refine Zv F (d_un (v := iU (-b).toNat) F rfl rfl (Bd.i_neg64 b)) fun A F => ?_
 refine Av F fun A F => ?_
 refine Zv F (Bn (iU (Bd.rest b).toNat) F rfl rfl rfl (i_rem64 (-b) b hb)) fun A F => ?_
 refine Av F fun A F => ?_
 refine Nl kk ?_
 refine Wr (ret1 F Tryz.results58 (res_tmp F rfl) (An ?_ H.below))
 rfl
open Sx in
theorem baccept_y (x b : BitVec 64) (hb : b.toNat ≠ 0) (ht : Bd.taken x b = true) (w0 : World) : Calls Tryz.prog 22 #[uN x, uN b] w0 fun e w' => e = .returned (.tuple #[uN (Bd.val x b), bT]) ∧ Below w0.heap.size w0 w' := by
 refine En Tryz.func22 Tryz.ntmps22 fun A F => ?_
 have H := Sx.Own.start w0
 refine Sp fun _ kk => ?_
 iterate 2 (refine Av F ?_; intro A F)
 refine Nl kk (Sx.seq fun K2 hK2 => Sp fun _ kk => Av F fun A F => ?_)
 refine Zv F (Bn bF F rfl rfl rfl (i_eq (beq_false_of_ne (by omega)))) fun A F => ?_
 refine Nl kk (condF F rfl (wp_skip (hK2 _ _ (Sp fun _ kk => ?_))))
 iterate 2 (refine Av F ?_; intro A F)
 refine Zw F (Dc if_57 F H (wfull_c x b _)) fun A w F H => ?_
 refine Zb F (d_alloc H rfl L1 zero_26) fun g1 A w F H => ?_
 refine Zs 0 [uH (Wd.full x b), uL (Wd.full x b)] sz_26 F H fun A w F H => ?_
 refine Nl kk (Sx.seq fun K5 hK5 => Sx.seq fun K6 hK6 => ?_)
 have F := F.tq [(1, uN b), (4, iU 0), (5, bF), (6, pT g1 0)] rfl
 refine Dn F [some (pT g1 1), some (uL (Wd.full x b)), some (uN b), some (uN (Bd.rest b)), some (bF)] (fun L A w => Sx.Own w0 w [(true, g1, [uH (Wd.full x b), uL (Wd.full x b)])] []) H.drew ?_ ?_
 ·refine ⟨?_, ?_, ?_, ?_, ?_, trivial⟩
  ·exact Sa
  ·exact SV (fun _ _ _ F H => Ld 0 one_22 F H)
  ·exact Sa
  ·intro L A w up hun hd F H
   refine step_on rfl (Dc if_58 F H (brest_c b hb _)) ?_
   rintro xv w' ⟨hx, H⟩
   exact ⟨Cs hx, H⟩
  ·exact SV (fun _ _ _ F _ => Bn bF F rfl rfl rfl (i_lt (by simpa [Bd.taken] using ht)))
 ·intro L A w hL F H
  have F := F.tq [(4, iU 0), (5, bF), (6, pT g1 0), (16, bF)] rfl
  refine hK6 _ _ (condF F rfl (wp_skip (hK5 _ _ (Sp fun _ kk => ?_))))
  iterate 4 (refine Av F ?_; intro A F)
  refine Nl kk ?_
  refine Wr (ret2 F Tryz.results22 (res_tmp F rfl) (res_tmp F rfl) (An ?_ H.below))
  rfl
open Sx in
theorem baccept_n (x b : BitVec 64) (hb : b.toNat ≠ 0) (ht : Bd.taken x b = false) (w0 : World) : Calls Tryz.prog 22 #[uN x, uN b] w0 fun e w' => e = .returned (.tuple #[iU 0, bF]) ∧ Below w0.heap.size w0 w' := by
 refine En Tryz.func22 Tryz.ntmps22 fun A F => ?_
 have H := Sx.Own.start w0
 refine Sp fun _ kk => ?_
 iterate 2 (refine Av F ?_; intro A F)
 refine Nl kk (Sx.seq fun K2 hK2 => Sp fun _ kk => Av F fun A F => ?_)
 refine Zv F (Bn bF F rfl rfl rfl (i_eq (beq_false_of_ne (by omega)))) fun A F => ?_
 refine Nl kk (condF F rfl (wp_skip (hK2 _ _ (Sp fun _ kk => ?_))))
 iterate 2 (refine Av F ?_; intro A F)
 refine Zw F (Dc if_57 F H (wfull_c x b _)) fun A w F H => ?_
 refine Zb F (d_alloc H rfl L1 zero_26) fun g1 A w F H => ?_
 refine Zs 0 [uH (Wd.full x b), uL (Wd.full x b)] sz_26 F H fun A w F H => ?_
 refine Nl kk (Sx.seq fun K5 hK5 => Sx.seq fun K6 hK6 => ?_)
 have F := F.tq [(1, uN b), (4, iU 0), (5, bF), (6, pT g1 0)] rfl
 refine Dn F [some (pT g1 1), some (uL (Wd.full x b)), some (uN b), some (uN (Bd.rest b)), some (bT)] (fun L A w => Sx.Own w0 w [(true, g1, [uH (Wd.full x b), uL (Wd.full x b)])] []) H.drew ?_ ?_
 ·refine ⟨?_, ?_, ?_, ?_, ?_, trivial⟩
  ·exact Sa
  ·exact SV (fun _ _ _ F H => Ld 0 one_22 F H)
  ·exact Sa
  ·intro L A w up hun hd F H
   refine step_on rfl (Dc if_58 F H (brest_c b hb _)) ?_
   rintro xv w' ⟨hx, H⟩
   exact ⟨Cs hx, H⟩
  ·exact SV (fun _ _ _ F _ => Bn bT F rfl rfl rfl (i_lt (by simpa [Bd.taken] using ht)))
 ·intro L A w hL F H
  have F := F.tq [(4, iU 0), (5, bF), (6, pT g1 0), (16, bT)] rfl
  refine hK6 _ _ (condT F rfl (Sp fun _ kk => ?_))
  iterate 2 (refine Av F ?_; intro A F)
  refine Nl kk ?_
  refine Wr (ret2 F Tryz.results22 (res_tmp F rfl) (res_tmp F rfl) (An ?_ H.below))
  rfl
section
open Sx
variable {w0 w : World} {bs : List Sx.Bx} {rs : List Sx.Rx} {K : Nat → Option Obj} {g1 g2 g3 g4 g5 g6 g7 g8 g9 g10 g11 g12 g13 g14 g15 g16 g17 g18 g19 g20 g21 g22 g23 g24 c1 c2 c3 c4 c5 c6 c7 c8 c9 : Nat} {v1 v2 v3 v4 v5 v6 v7 v8 v9 : Value} {n b : BitVec 64} {at' : BitVec 128} {kd lf : BitVec 8} {G : Bd.Gen}
namespace Bd
def noy : Nat → BitVec 64 := fun _ => 0#64
def nogs : Gs := mk1 0#64
variable (G : Gen) (n : BitVec 64) (at' : BitVec 128) (b : BitVec 64)
def Un (p : BitVec 128) : Prop := ∀ q : BitVec 128, at'.toNat ≤ q.toNat → q.toNat < p.toNat → taken (wd G n at' q) b = false
def Told (a : BitVec 64) (j : Int) (o : BitVec 128) : Prop :=
  (j = 0 ∧ ∃ q : BitVec 128, at'.toNat ≤ q.toNat ∧ q.toNat < G.lim.toNat ∧ o = q + 1#128 ∧ Un G n at' b q ∧ taken (wd G n at' q) b = true ∧ a = val (wd G n at' q) b) ∨ (j = 7 ∧ a = 0#64 ∧ o = G.lim ∧ Un G n at' b G.lim)
theorem Un.zero : Un G n at' b at' := fun q h1 h2 => by omega
variable {G n at' b}
theorem Un.succ {o : BitVec 128} (h : Un G n at' b o) (hs : (o + 1#128).toNat = o.toNat + 1) (ht : taken (wd G n at' o) b = false) : Un G n at' b (o + 1#128) := fun q h1 h2 => by
  by_cases e : q.toNat < o.toNat
  · exact h q h1 e
  · rw [show q = o from BitVec.eq_of_toNat_eq (by omega)]; exact ht
theorem succ_nat (G : Gen) {p : BitVec 128} (h : p.toNat < G.lim.toNat) : (p + 1#128).toNat = p.toNat + 1 := by
  rw [BitVec.toNat_add]
  have := G.lim_le; have e : (1#128 : BitVec 128).toNat = 1 := rfl
  rw [e]; omega
theorem enough1 {a p : BitVec 128} (h : p.toNat < a.toNat) : decide ((Wd.cmp 1#128 (a - p) : Int) ≤ 0) = true := by
  refine decide_eq_true ((cmp_le0 _ _).2 ?_)
  rw [sub_nat (Nat.le_of_lt h), show (1#128 : BitVec 128).toNat = 1 from rfl]; omega
theorem enough0 (a : BitVec 128) : decide ((Wd.cmp 1#128 (a - a) : Int) ≤ 0) = false := by
  refine decide_eq_false fun h => ?_
  have := (cmp_le0 _ _).1 h
  rw [sub_nat (Nat.le_refl _), show (1#128 : BitVec 128).toNat = 1 from rfl] at this; omega
end Bd
theorem cx3001 {o1 : BitVec 128} {y1 : Nat → BitVec 64} {z1 : Gs} (pp1 : Bd.Buf G n at' g1 o1 y1 v1 z1) (pp2 : o1.toNat < G.lim.toNat) (H : Sx.Own w0 w (Bt g1 (L96 G n o1 y1 v1 z1) :: bs) rs K) : Cr 124 #[pT g1 0] w0 w (.agg #[uH o1, uL o1]) (Bt g1 (L96 G n o1 y1 v1 z1) :: bs) rs K := by
 refine En Tryz.func124 Tryz.ntmps124 fun A F => ?_
 refine Sp fun _ kk => Zb F (d_alloc H rfl [iU 0, iU 0] zero_26) fun g2 A w F H => ?_
 refine Nl kk (Sp fun _ kk => ?_)
 iterate 4 (refine Av F ?_; intro A F)
 refine Zs 0 [uH o1, uL o1] sz_26 F H fun A w F H => ?_
 refine Nl kk (Wr (ret1 F Tryz.results124 (res_row (i := 0) (xs := [uH o1, uL o1]) rw_26 F H rfl rfl rfl rfl) ?_))
 exact ⟨_, rfl, rfl, H.pickN 2 0 [1] []⟩
abbrev L107 (x0 : BitVec 128) (x1 : Bd.Gen) : Value := .agg #[uH x0, uL x0, uH x1.lim, uL x1.lim]
abbrev L108 (x0 : BitVec 128) (x1 : Bd.Gen) : List Value := [uH x0, uL x0, uH x1.lim, uL x1.lim]
theorem cx3002 {o1 : BitVec 128} {y1 : Nat → BitVec 64} {z1 : Gs} (pp1 : Bd.Buf G n at' g2 o1 y1 v1 z1) (pp2 : o1.toNat < G.lim.toNat) (H : Sx.Own w0 w (Bt g1 [pT g2 0, uH G.lim, uL G.lim] :: Bt g2 (L96 G n o1 y1 v1 z1) :: bs) rs K) : Cr 84 #[pT g1 0] w0 w (L107 o1 G) (Bt g1 [pT g2 0, uH G.lim, uL G.lim] :: Bt g2 (L96 G n o1 y1 v1 z1) :: bs) rs K := by
 refine En Tryz.func84 Tryz.ntmps84 fun A F => ?_
 refine Sp fun _ kk => Zb F (d_alloc H rfl [iU 0, iU 0, iU 0, iU 0] zero_79) fun g3 A w F H => ?_
 refine Nl kk (Sx.seq fun K2 hK2 => ?_)
 have F := F.tq [(0, pT g1 0), (2, pT g3 0)] rfl
 refine Dn F [some (pT g1 0), some (pT g1 0), some (pT g1 0), some (pT g2 0), some (.agg #[uH o1, uL o1]), some (pT g1 0), some (pT g1 0), some (pT g1 1), some (.agg #[uH G.lim, uL G.lim]), some (L107 o1 G), none] (fun L A w => Sx.Own w0 w (Bt g3 (cond (L 10) (L108 o1 G) [iU 0, iU 0, iU 0, iU 0]) :: Bt g1 [pT g2 0, uH G.lim, uL G.lim] :: Bt g2 (L96 G n o1 y1 v1 z1) :: bs) rs K) (H.drew.padG [] [] rfl rfl) ?_ ?_
 ·refine ⟨?_, ?_, ?_, ?_, ?_, ?_, ?_, ?_, ?_, ?_, ?_, trivial⟩
  ·exact Sa
  ·exact Sa
  ·exact Sa
  ·exact SV (fun _ _ _ F H => Ld 1 one_220 F H)
  ·intro L A w up hun hd F H
   have f10 : L 10 = false := up 10 4 rfl hun
   rw [f10] at H
   have H : Sx.Own w0 w (Bt g3 [iU 0, iU 0, iU 0, iU 0] :: Bt g1 [pT g2 0, uH G.lim, uL G.lim] :: Bt g2 (L96 G n o1 y1 v1 z1) :: bs) rs K := H
   have H := H.pickN 3 0 [2, 0, 1] []
   refine step_on rfl (Do if_124 F (cx3001 pp1 pp2 H)) ?_
   rintro xv w' ⟨hx, H⟩
   have H := H.pickN 3 0 [1, 2, 0] []
   exact ⟨Cs hx, (by show Sx.Own _ _ _ _ _; rw [show Inv.add L 4 10 = false from f10]; exact H)⟩
  ·exact Sa
  ·exact Sa
  ·exact Sa
  ·exact SV (fun _ _ _ F H => Lr 1 [uH G.lim, uL G.lim] rw_26 F H)
  ·exact SV (fun _ _ _ F _ => d_build (qs := #[(0, .agg #[uH o1, uL o1]), (1, .agg #[uH G.lim, uL G.lim])]) (v := (L107 o1 G)) F rfl rfl (by kernel_rfl))
  ·intro L A w up hun hd F H
   have f10 : L 10 = false := hun
   rw [f10] at H
   refine step_on rfl (d_store (i := 0) (xs := (L108 o1 G)) (us := (L108 o1 G)) sz_79 F H rfl rfl rfl rfl rfl rfl rfl (Nat.le_of_ble_eq_true rfl) rfl) ?_
   intro xv w' H
   exact ⟨Cn, H⟩
 ·intro L A w hL F H
  have t10 : L 10 = true := hL 10 rfl
  rw [t10] at H
  have H := H.pickN 3 0 [0, 1, 2] []
  have F := F.tq [(2, pT g3 0)] rfl
  refine hK2 _ _ (Wr (ret1 F Tryz.results84 (res_row (i := 0) (xs := (L108 o1 G)) rw_79 F H rfl rfl rfl rfl) ?_))
  exact ⟨_, rfl, rfl, H.pickN 3 0 [1, 2] []⟩
theorem cx3003 {o1 : BitVec 128} (pp1 : o1.toNat < G.lim.toNat) (H : Sx.Own w0 w bs rs K) : Cr 119 #[(L107 o1 G)] w0 w bT bs rs K := by
 refine En Tryz.func119 Tryz.ntmps119 fun A F => ?_
 refine Sp fun _ kk => Zb F (d_box F H rfl rfl (L108 o1 G) rfl) fun g1 A w F H => ?_
 refine Av F fun A F => ?_
 refine Nl kk (Sp fun _ kk => ?_)
 iterate 4 (refine Av F ?_; intro A F)
 refine Zw F (Dc if_16 F H (wcmp_c o1 G.lim _)) fun A w F H => ?_
 refine Zv F (Bn bT F rfl rfl rfl (i_le (decide_eq_true ((Bd.cmp_le0 _ _).2 (Nat.le_of_lt pp1))))) fun A F => ?_
 refine Av F fun A F => ?_
 refine Nl kk (Wr (ret1 F Tryz.results119 (res_tmp F rfl) ?_))
 exact ⟨_, rfl, rfl, H.pickN 1 0 [] []⟩
abbrev L109 (x0 : Bd.Gen) (x1 : BitVec 128) : List Value := [uH (x0.lim - x1), uL (x0.lim - x1)]
theorem cx3004 {o1 : BitVec 128} (pp1 : o1.toNat < G.lim.toNat) (H : Sx.Own w0 w bs rs K) : Cr 135 #[(L107 o1 G)] w0 w (L97 G o1) bs rs K := by
 refine En Tryz.func135 Tryz.ntmps135 fun A F => ?_
 refine Sp fun _ kk => Zb F (d_box F H rfl rfl (L108 o1 G) rfl) fun g1 A w F H => ?_
 refine Zb F (d_alloc H rfl [iU 0, iU 0] zero_26) fun g2 A w F H => ?_
 refine Nl kk (Sx.seq fun K2 hK2 => Sp fun _ kk => Av F fun A F => ?_)
 refine Zx F (Do if_119 F (cx3003 pp1 H)) ?_
 rintro _ w ⟨rfl, H⟩ A F
 refine Zv F (d_un (v := bF) F rfl rfl rfl) fun A F => ?_
 refine Nl kk (condF F rfl (wp_skip (hK2 _ _ (Sp fun _ kk => ?_))))
 iterate 4 (refine Av F ?_; intro A F)
 refine Zw F (Dc if_155 F H (wsub_c G.lim o1 _)) fun A w F H => ?_
 iterate 3 (refine Av F ?_; intro A F)
 refine Zb F (d_alloc H rfl [iU 0, iU 0] zero_26) fun g3 A w F H => ?_
 refine Zs 0 (L109 G o1) sz_26 F H fun A w F H => ?_
 refine Av F fun A F => ?_
 refine Nl kk (Sp fun _ kk => Av F fun A F => ?_)
 refine Zs 1 (L109 G o1) sz_26 F H fun A w F H => ?_
 refine Nl kk (Wr (ret1 F Tryz.results135 (res_row (i := 1) (xs := (L109 G o1)) rw_26 F H rfl rfl rfl rfl) ?_))
 exact ⟨_, rfl, rfl, H.pickN 3 0 [] []⟩
theorem cx3005 {o1 : BitVec 128} {y1 : Nat → BitVec 64} {z1 : Gs} (pp1 : Bd.Buf G n at' g2 o1 y1 v1 z1) (pp2 : o1.toNat < G.lim.toNat) (H : Sx.Own w0 w (Bt g1 [pT g2 0, uH G.lim, uL G.lim] :: Bt g2 (L96 G n o1 y1 v1 z1) :: bs) rs K) : Cr 158 #[pT g1 0] w0 w (L97 G o1) (Bt g1 [pT g2 0, uH G.lim, uL G.lim] :: Bt g2 (L96 G n o1 y1 v1 z1) :: bs) rs K := by
 refine En Tryz.func158 Tryz.ntmps158 fun A F => ?_
 refine Sp fun _ kk => Zb F (d_alloc H rfl [iU 0, iU 0] zero_26) fun g3 A w F H => ?_
 refine Nl kk (Sp fun _ kk => Av F fun A F => ?_)
 have H := H.pickN 3 0 [1, 2, 0] []
 refine Zx F (Do if_84 F (cx3002 pp1 pp2 H)) ?_
 rintro _ w ⟨rfl, H⟩ A F
 refine Zx F (Do if_135 F (cx3004 pp2 H)) ?_
 rintro _ w ⟨rfl, H⟩ A F
 refine Zs 2 (L109 G o1) sz_26 F H fun A w F H => ?_
 refine Nl kk (Wr (ret1 F Tryz.results158 (res_row (i := 2) (xs := (L109 G o1)) rw_26 F H rfl rfl rfl rfl) ?_))
 exact ⟨_, rfl, rfl, H.pickN 3 0 [0, 1] []⟩
theorem cx3006 {o1 : BitVec 128} {y1 : Nat → BitVec 64} {z1 : Gs} (pp1 : Bd.Buf G n at' g2 o1 y1 v1 z1) (pp2 : o1.toNat < G.lim.toNat) (H : Sx.Own w0 w (Bt g1 [pT g2 0, uH G.lim, uL G.lim] :: Bt g2 (L96 G n o1 y1 v1 z1) :: bs) rs K) : Cr 141 #[pT g1 0, .agg #[iU 0, iU 1]] w0 w bT (Bt g1 [pT g2 0, uH G.lim, uL G.lim] :: Bt g2 (L96 G n o1 y1 v1 z1) :: bs) rs K := by
 refine En Tryz.func141 Tryz.ntmps141 fun A F => ?_
 refine Sp fun _ kk => Zb F (d_box F H rfl rfl [iU 0, iU 1] rfl) fun g3 A w F H => ?_
 refine Av F fun A F => ?_
 refine Nl kk (Sx.seq fun K2 hK2 => ?_)
 have F := F.tq [(0, pT g1 0), (3, pT g3 0)] rfl
 refine Dn F [some (.agg #[iU 0, iU 1]), some (pT g1 0), some (L97 G o1), some (iI (Wd.cmp 1#128 (G.lim - o1))), some (bT), some (bT)] (fun L A w => Sx.Own w0 w (Bt g3 [iU 0, iU 1] :: Bt g1 [pT g2 0, uH G.lim, uL G.lim] :: Bt g2 (L96 G n o1 y1 v1 z1) :: bs) rs K) (H.drew.padG [] [] rfl rfl) ?_ ?_
 ·refine ⟨?_, ?_, ?_, ?_, ?_, ?_, trivial⟩
  ·exact SV (fun _ _ _ F H => Lr 0 [iU 0, iU 1] rw_26 F H)
  ·exact Sa
  ·intro L A w up hun hd F H
   have H : Sx.Own w0 w (Bt g3 [iU 0, iU 1] :: Bt g1 [pT g2 0, uH G.lim, uL G.lim] :: Bt g2 (L96 G n o1 y1 v1 z1) :: bs) rs K := H
   have H := H.pickN 3 0 [1, 2, 0] []
   refine step_on rfl (Do if_158 F (cx3005 pp1 pp2 H)) ?_
   rintro xv w' ⟨hx, H⟩
   have H := H.pickN 3 0 [2, 0, 1] []
   exact ⟨Cs hx, H⟩
  ·intro L A w up hun hd F H
   refine step_on rfl (Dc if_16 F H (wcmp_c 1#128 (G.lim - o1) _)) ?_
   rintro xv w' ⟨hx, H⟩
   exact ⟨Cs hx, H⟩
  ·exact SV (fun _ _ _ F _ => Bn bT F rfl rfl rfl (i_le (Bd.enough1 pp2)))
  ·exact Sa
 ·intro L A w hL F H
  have H := H.pickN 3 0 [0, 1, 2] []
  have F := F.tq [(4, bT)] rfl
  refine hK2 _ _ (Wr (ret1 F Tryz.results141 (res_tmp F rfl) ?_))
  exact ⟨_, rfl, rfl, H.pickN 3 0 [1, 2] []⟩
abbrev L110 (x0 : Bd.Gen) (x1 : BitVec 64) (x2 : BitVec 128) (x3 : Nat → BitVec 64) (x4 : Value) (x5 : Gs) : List Value := [iI x0.k, uN x1, uH (x2 + 1#128), uL (x2 + 1#128), uN (x3 0), uN (x3 1), uN (x3 2), uN (x3 3), uN (x3 4), uN (x3 5), uN (x3 6), uN (x3 7), x4, iI x5.k, uN x5.m, uN x5.x.a, uN x5.x.b, uN x5.x.c, uN x5.x.d, uH x5.s, uL x5.s, uH x5.i, uL x5.i, uH x5.c, uL x5.c, iW x5.k0.toNat, iW x5.k1.toNat, .bool x5.b]
theorem cx3007 {o1 : BitVec 128} {y1 : Nat → BitVec 64} {z1 : Gs} (pp1 : Bd.Buf G n at' g2 o1 y1 v1 z1) (pp2 : o1.toNat < G.lim.toNat) (H : Sx.Own w0 w (Bt g1 [pT g2 0, uH G.lim, uL G.lim] :: Bt g2 (L96 G n o1 y1 v1 z1) :: bs) rs K) : Cq 140 #[pT g1 0, iI 1] w fun x w' => ∃ (g4 : Nat) (c1 : Nat) (y2 : Nat → BitVec 64) (v2 : Value) (z2 : Gs), 1 ≤ c1 ∧ Bd.Buf G n at' g2 (o1 + 1#128) y2 v2 z2 ∧ x = .tuple #[sL g4 0 1 c1, iI 0] ∧ Sx.Own w0 w' (Bt g1 [pT g2 0, uH G.lim, uL G.lim] :: Bt g2 (L110 G n o1 y2 v2 z2) :: bs) (⟨true, sL g4 0 1 c1, 22, 1, 1, [uN (Bd.wd G n at' o1)]⟩ :: rs) K := by
 refine En Tryz.func140 Tryz.ntmps140 fun A F => ?_
 refine Sp fun _ kk => ?_
 iterate 2 (refine Av F ?_; intro A F)
 refine Nl kk (Sp fun _ kk => Av F fun A F => ?_)
 refine Zv F (d_mkFunc (fv := [pT g1 0]) (cv := []) F rfl rfl rfl) fun A F => ?_
 refine Av F fun A F => ?_
 refine Nl kk (Sx.seq fun K3 hK3 => Sp fun _ kk => ?_)
 iterate 2 (refine Av F ?_; intro A F)
 refine Zv F (d_conv (v := iU 1) F rfl rfl (by kernel_rfl)) fun A F => ?_
 refine Zw F (d_call (vs := [iU 1]) (v := .agg #[iU 0, iU 1]) if_15 F H rfl rfl (Calls.val (v := L17) (Calls.val (wofV_c 1#64 _) (by kernel_rfl) (by kernel_rfl)) rfl (by kernel_rfl))) fun A w F H => ?_
 refine Zx F (d_callCO (fv := [pT g1 0]) (vs := [.agg #[iU 0, iU 1]]) (cv := []) if_141 F rfl rfl rfl (cx3006 pp1 pp2 H)) ?_
 rintro _ w ⟨rfl, H⟩ A F
 refine Zv F (d_un (v := bF) F rfl rfl rfl) fun A F => ?_
 refine Nl kk (condF F rfl (wp_skip (hK3 _ _ (Sp fun _ kk => Av F fun A F => ?_))))
 refine Nl kk (Sx.seq fun K6 hK6 => Sp fun _ kk => ?_)
 iterate 2 (refine Av F ?_; intro A F)
 refine Nl kk (wp_block (wp_loop_rounds 40 ?_))
 refine Rs ?_
 refine Sp fun _ kk => Av F fun A F => ?_
 refine Nl kk (Sx.seq fun K9 hK9 => condT F rfl (wp_skip (hK9 _ _ (Sx.seq fun K10 hK10 => wp_block (Sp fun _ kk => ?_)))))
 iterate 4 (refine Av F ?_; intro A F)
 have H := H.pickN 2 0 [1, 0] []
 refine Zx F (d_callO (vs := [pT g2 0]) if_157 F rfl rfl (curnext_c pp1 pp2 H)) ?_
 rintro _ w ⟨y2, v2, z2, pp3, rfl, H⟩ A F
 iterate 5 (refine Av F ?_; intro A F)
 refine Nl kk (Sx.seq fun K12 hK12 => Sp fun _ kk => ?_)
 iterate 2 (refine Av F ?_; intro A F)
 refine Nl kk (condF F rfl (wp_skip (hK12 _ _ (Sx.plain ?_))))
 iterate 2 (refine Av F ?_; intro A F)
 refine Zg (mk := fun g => sL g 0 1 1) F (d_lit (qs := #[(0, uN (Bd.wd G n at' o1))]) (cs := #[uN (Bd.wd G n at' o1)]) (E := 22) F H rfl rfl (fun _ => by kernel_rfl)) fun g3 A w F H => ?_
 have H := Sx.Own.nilR H 22 1
 refine Zr (mk := fun v => v) F (d_append (i := 0) (j := 0) el_65 F H rfl rfl rfl rfl rfl rfl rfl rfl (by decide) (by decide)) fun v3 A w F H => ?_
 obtain ⟨g4, c1, rfl, hbc1, hdc1⟩ := H.open (i := 0) rfl (by decide)
 refine Av F fun A F => ?_
 refine Sx.nil (hK10 _ _ (Sx.plain ?_))
 refine Zn (iI 1) F fun A F => ?_
 refine Av F fun A F => ?_
 refine Sx.nil (Rs ?_)
 refine Sp fun _ kk => Av F fun A F => ?_
 refine Nl kk (Sx.seq fun K15 hK15 => condF F rfl (wp_exit ?_))
 try dsimp only [Exit.then, Exit.jump, Exit.noGoto]
 refine exit_here (hK6 _ _ (Sp fun _ kk => ?_))
 iterate 3 (refine Av F ?_; intro A F)
 refine Nl kk (Wr (ret2 F Tryz.results140 (res_tmp F rfl) (res_tmp F rfl) ?_))
 exact ⟨_, rfl, g4, c1, y2, v2, z2, (by omega), pp3, rfl, H.pickN 3 1 [2, 1] [0]⟩
theorem cx3008 {o1 : BitVec 128} {y1 : Nat → BitVec 64} {z1 : Gs} (pp1 : Bd.Buf G n at' g2 o1 y1 v1 z1) (pp2 : o1.toNat < G.lim.toNat) (H : Sx.Own w0 w (Bt g1 [pT g2 0, uH G.lim, uL G.lim] :: Bt g2 (L96 G n o1 y1 v1 z1) :: bs) rs K) : Cq 102 #[pT g1 0] w fun x w' => ∃ (y2 : Nat → BitVec 64) (v2 : Value) (z2 : Gs), Bd.Buf G n at' g2 (o1 + 1#128) y2 v2 z2 ∧ x = .tuple #[uN (Bd.wd G n at' o1), iI 0] ∧ Sx.Own w0 w' (Bt g1 [pT g2 0, uH G.lim, uL G.lim] :: Bt g2 (L110 G n o1 y2 v2 z2) :: bs) rs K := by
 refine En Tryz.func102 Tryz.ntmps102 fun A F => ?_
 refine Sp fun _ kk => ?_
 iterate 2 (refine Av F ?_; intro A F)
 refine Nl kk (Sp fun _ kk => Av F fun A F => ?_)
 refine Zx F (Do if_140 F (cx3007 pp1 pp2 H)) ?_
 rintro _ w ⟨g3, c1, y2, v2, z2, hbc1, pp3, rfl, H⟩ A F
 iterate 5 (refine Av F ?_; intro A F)
 refine Nl kk (Sx.seq fun K3 hK3 => Sp fun _ kk => ?_)
 iterate 2 (refine Av F ?_; intro A F)
 refine Nl kk (condF F rfl (wp_skip (hK3 _ _ (Sp fun _ kk => Av F fun A F => ?_))))
 refine Zv F (d_ix1 (k := 0) (g := g3) (off := 0) el_65 F rfl rfl rfl rfl rfl (by omega)) fun A F => ?_
 refine Zv F (Ld 0 one_22 F (H.rowBox (i := 0) rfl)) fun A F => ?_
 iterate 2 (refine Av F ?_; intro A F)
 refine Nl kk (Wr (ret2 F Tryz.results102 (res_tmp F rfl) (res_tmp F rfl) ?_))
 exact ⟨_, rfl, y2, v2, z2, pp3, rfl, H.pickN 2 1 [0, 1] []⟩
abbrev L111 (x0 : Bd.Gen) (x1 : BitVec 64) (x2 : Nat → BitVec 64) (x3 : Value) (x4 : Gs) : List Value := [iI x0.k, uN x1, uH x0.lim, uL x0.lim, uN (x2 0), uN (x2 1), uN (x2 2), uN (x2 3), uN (x2 4), uN (x2 5), uN (x2 6), uN (x2 7), x3, iI x4.k, uN x4.m, uN x4.x.a, uN x4.x.b, uN x4.x.c, uN x4.x.d, uH x4.s, uL x4.s, uH x4.i, uL x4.i, uH x4.c, uL x4.c, iW x4.k0.toNat, iW x4.k1.toNat, .bool x4.b]
theorem cx3009 {y1 : Nat → BitVec 64} {z1 : Gs} (H : Sx.Own w0 w (Bt g1 (L111 G n y1 v1 z1) :: bs) rs K) : Cr 124 #[pT g1 0] w0 w (.agg #[uH G.lim, uL G.lim]) (Bt g1 (L111 G n y1 v1 z1) :: bs) rs K := by
 refine En Tryz.func124 Tryz.ntmps124 fun A F => ?_
 refine Sp fun _ kk => Zb F (d_alloc H rfl [iU 0, iU 0] zero_26) fun g2 A w F H => ?_
 refine Nl kk (Sp fun _ kk => ?_)
 iterate 4 (refine Av F ?_; intro A F)
 refine Zs 0 [uH G.lim, uL G.lim] sz_26 F H fun A w F H => ?_
 refine Nl kk (Wr (ret1 F Tryz.results124 (res_row (i := 0) (xs := [uH G.lim, uL G.lim]) rw_26 F H rfl rfl rfl rfl) ?_))
 exact ⟨_, rfl, rfl, H.pickN 2 0 [1] []⟩
abbrev L112 (x0 : Bd.Gen) : Value := .agg #[uH x0.lim, uL x0.lim, uH x0.lim, uL x0.lim]
abbrev L113 (x0 : Bd.Gen) : List Value := [uH x0.lim, uL x0.lim, uH x0.lim, uL x0.lim]
theorem cx3010 {y1 : Nat → BitVec 64} {z1 : Gs} (H : Sx.Own w0 w (Bt g1 [pT g2 0, uH G.lim, uL G.lim] :: Bt g2 (L111 G n y1 v1 z1) :: bs) rs K) : Cr 84 #[pT g1 0] w0 w (L112 G) (Bt g1 [pT g2 0, uH G.lim, uL G.lim] :: Bt g2 (L111 G n y1 v1 z1) :: bs) rs K := by
 refine En Tryz.func84 Tryz.ntmps84 fun A F => ?_
 refine Sp fun _ kk => Zb F (d_alloc H rfl [iU 0, iU 0, iU 0, iU 0] zero_79) fun g3 A w F H => ?_
 refine Nl kk (Sx.seq fun K2 hK2 => ?_)
 have F := F.tq [(0, pT g1 0), (2, pT g3 0)] rfl
 refine Dn F [some (pT g1 0), some (pT g1 0), some (pT g1 0), some (pT g2 0), some (.agg #[uH G.lim, uL G.lim]), some (pT g1 0), some (pT g1 0), some (pT g1 1), some (.agg #[uH G.lim, uL G.lim]), some (L112 G), none] (fun L A w => Sx.Own w0 w (Bt g3 (cond (L 10) (L113 G) [iU 0, iU 0, iU 0, iU 0]) :: Bt g1 [pT g2 0, uH G.lim, uL G.lim] :: Bt g2 (L111 G n y1 v1 z1) :: bs) rs K) (H.drew.padG [] [] rfl rfl) ?_ ?_
 ·refine ⟨?_, ?_, ?_, ?_, ?_, ?_, ?_, ?_, ?_, ?_, ?_, trivial⟩
  ·exact Sa
  ·exact Sa
  ·exact Sa
  ·exact SV (fun _ _ _ F H => Ld 1 one_220 F H)
  ·intro L A w up hun hd F H
   have f10 : L 10 = false := up 10 4 rfl hun
   rw [f10] at H
   have H : Sx.Own w0 w (Bt g3 [iU 0, iU 0, iU 0, iU 0] :: Bt g1 [pT g2 0, uH G.lim, uL G.lim] :: Bt g2 (L111 G n y1 v1 z1) :: bs) rs K := H
   have H := H.pickN 3 0 [2, 0, 1] []
   refine step_on rfl (Do if_124 F (cx3009 H)) ?_
   rintro xv w' ⟨hx, H⟩
   have H := H.pickN 3 0 [1, 2, 0] []
   exact ⟨Cs hx, (by show Sx.Own _ _ _ _ _; rw [show Inv.add L 4 10 = false from f10]; exact H)⟩
  ·exact Sa
  ·exact Sa
  ·exact Sa
  ·exact SV (fun _ _ _ F H => Lr 1 [uH G.lim, uL G.lim] rw_26 F H)
  ·exact SV (fun _ _ _ F _ => d_build (qs := #[(0, .agg #[uH G.lim, uL G.lim]), (1, .agg #[uH G.lim, uL G.lim])]) (v := (L112 G)) F rfl rfl (by kernel_rfl))
  ·intro L A w up hun hd F H
   have f10 : L 10 = false := hun
   rw [f10] at H
   refine step_on rfl (d_store (i := 0) (xs := (L113 G)) (us := (L113 G)) sz_79 F H rfl rfl rfl rfl rfl rfl rfl (Nat.le_of_ble_eq_true rfl) rfl) ?_
   intro xv w' H
   exact ⟨Cn, H⟩
 ·intro L A w hL F H
  have t10 : L 10 = true := hL 10 rfl
  rw [t10] at H
  have H := H.pickN 3 0 [0, 1, 2] []
  have F := F.tq [(2, pT g3 0)] rfl
  refine hK2 _ _ (Wr (ret1 F Tryz.results84 (res_row (i := 0) (xs := (L113 G)) rw_79 F H rfl rfl rfl rfl) ?_))
  exact ⟨_, rfl, rfl, H.pickN 3 0 [1, 2] []⟩
theorem cx3011 (H : Sx.Own w0 w bs rs K) : Cr 119 #[(L112 G)] w0 w bT bs rs K := by
 refine En Tryz.func119 Tryz.ntmps119 fun A F => ?_
 refine Sp fun _ kk => Zb F (d_box F H rfl rfl (L113 G) rfl) fun g1 A w F H => ?_
 refine Av F fun A F => ?_
 refine Nl kk (Sp fun _ kk => ?_)
 iterate 4 (refine Av F ?_; intro A F)
 refine Zw F (Dc if_16 F H (wcmp_c G.lim G.lim _)) fun A w F H => ?_
 refine Zv F (Bn bT F rfl rfl rfl (i_le (decide_eq_true ((Bd.cmp_le0 _ _).2 (Nat.le_refl _))))) fun A F => ?_
 refine Av F fun A F => ?_
 refine Nl kk (Wr (ret1 F Tryz.results119 (res_tmp F rfl) ?_))
 exact ⟨_, rfl, rfl, H.pickN 1 0 [] []⟩
abbrev L114 (x0 : Bd.Gen) : Value := .agg #[uH (x0.lim - x0.lim), uL (x0.lim - x0.lim)]
abbrev L115 (x0 : Bd.Gen) : List Value := [uH (x0.lim - x0.lim), uL (x0.lim - x0.lim)]
theorem cx3012 (H : Sx.Own w0 w bs rs K) : Cr 135 #[(L112 G)] w0 w (L114 G) bs rs K := by
 refine En Tryz.func135 Tryz.ntmps135 fun A F => ?_
 refine Sp fun _ kk => Zb F (d_box F H rfl rfl (L113 G) rfl) fun g1 A w F H => ?_
 refine Zb F (d_alloc H rfl [iU 0, iU 0] zero_26) fun g2 A w F H => ?_
 refine Nl kk (Sx.seq fun K2 hK2 => Sp fun _ kk => Av F fun A F => ?_)
 refine Zx F (Do if_119 F (cx3011 H)) ?_
 rintro _ w ⟨rfl, H⟩ A F
 refine Zv F (d_un (v := bF) F rfl rfl rfl) fun A F => ?_
 refine Nl kk (condF F rfl (wp_skip (hK2 _ _ (Sp fun _ kk => ?_))))
 iterate 4 (refine Av F ?_; intro A F)
 refine Zw F (Dc if_155 F H (wsub_c G.lim G.lim _)) fun A w F H => ?_
 iterate 3 (refine Av F ?_; intro A F)
 refine Zb F (d_alloc H rfl [iU 0, iU 0] zero_26) fun g3 A w F H => ?_
 refine Zs 0 (L115 G) sz_26 F H fun A w F H => ?_
 refine Av F fun A F => ?_
 refine Nl kk (Sp fun _ kk => Av F fun A F => ?_)
 refine Zs 1 (L115 G) sz_26 F H fun A w F H => ?_
 refine Nl kk (Wr (ret1 F Tryz.results135 (res_row (i := 1) (xs := (L115 G)) rw_26 F H rfl rfl rfl rfl) ?_))
 exact ⟨_, rfl, rfl, H.pickN 3 0 [] []⟩
theorem cx3013 {y1 : Nat → BitVec 64} {z1 : Gs} (H : Sx.Own w0 w (Bt g1 [pT g2 0, uH G.lim, uL G.lim] :: Bt g2 (L111 G n y1 v1 z1) :: bs) rs K) : Cr 158 #[pT g1 0] w0 w (L114 G) (Bt g1 [pT g2 0, uH G.lim, uL G.lim] :: Bt g2 (L111 G n y1 v1 z1) :: bs) rs K := by
 refine En Tryz.func158 Tryz.ntmps158 fun A F => ?_
 refine Sp fun _ kk => Zb F (d_alloc H rfl [iU 0, iU 0] zero_26) fun g3 A w F H => ?_
 refine Nl kk (Sp fun _ kk => Av F fun A F => ?_)
 have H := H.pickN 3 0 [1, 2, 0] []
 refine Zx F (Do if_84 F (cx3010 H)) ?_
 rintro _ w ⟨rfl, H⟩ A F
 refine Zx F (Do if_135 F (cx3012 H)) ?_
 rintro _ w ⟨rfl, H⟩ A F
 refine Zs 2 (L115 G) sz_26 F H fun A w F H => ?_
 refine Nl kk (Wr (ret1 F Tryz.results158 (res_row (i := 2) (xs := (L115 G)) rw_26 F H rfl rfl rfl rfl) ?_))
 exact ⟨_, rfl, rfl, H.pickN 3 0 [0, 1] []⟩
theorem cx3014 {y1 : Nat → BitVec 64} {z1 : Gs} (H : Sx.Own w0 w (Bt g1 [pT g2 0, uH G.lim, uL G.lim] :: Bt g2 (L111 G n y1 v1 z1) :: bs) rs K) : Cr 141 #[pT g1 0, .agg #[iU 0, iU 1]] w0 w bF (Bt g1 [pT g2 0, uH G.lim, uL G.lim] :: Bt g2 (L111 G n y1 v1 z1) :: bs) rs K := by
 refine En Tryz.func141 Tryz.ntmps141 fun A F => ?_
 refine Sp fun _ kk => Zb F (d_box F H rfl rfl [iU 0, iU 1] rfl) fun g3 A w F H => ?_
 refine Av F fun A F => ?_
 refine Nl kk (Sx.seq fun K2 hK2 => ?_)
 have F := F.tq [(0, pT g1 0), (3, pT g3 0)] rfl
 refine Dn F [some (.agg #[iU 0, iU 1]), some (pT g1 0), some (L114 G), some (iI (Wd.cmp 1#128 (G.lim - G.lim))), some (bF), some (bF)] (fun L A w => Sx.Own w0 w (Bt g3 [iU 0, iU 1] :: Bt g1 [pT g2 0, uH G.lim, uL G.lim] :: Bt g2 (L111 G n y1 v1 z1) :: bs) rs K) (H.drew.padG [] [] rfl rfl) ?_ ?_
 ·refine ⟨?_, ?_, ?_, ?_, ?_, ?_, trivial⟩
  ·exact SV (fun _ _ _ F H => Lr 0 [iU 0, iU 1] rw_26 F H)
  ·exact Sa
  ·intro L A w up hun hd F H
   have H : Sx.Own w0 w (Bt g3 [iU 0, iU 1] :: Bt g1 [pT g2 0, uH G.lim, uL G.lim] :: Bt g2 (L111 G n y1 v1 z1) :: bs) rs K := H
   have H := H.pickN 3 0 [1, 2, 0] []
   refine step_on rfl (Do if_158 F (cx3013 H)) ?_
   rintro xv w' ⟨hx, H⟩
   have H := H.pickN 3 0 [2, 0, 1] []
   exact ⟨Cs hx, H⟩
  ·intro L A w up hun hd F H
   refine step_on rfl (Dc if_16 F H (wcmp_c 1#128 (G.lim - G.lim) _)) ?_
   rintro xv w' ⟨hx, H⟩
   exact ⟨Cs hx, H⟩
  ·exact SV (fun _ _ _ F _ => Bn bF F rfl rfl rfl (i_le (Bd.enough0 _)))
  ·exact Sa
 ·intro L A w hL F H
  have H := H.pickN 3 0 [0, 1, 2] []
  have F := F.tq [(4, bF)] rfl
  refine hK2 _ _ (Wr (ret1 F Tryz.results141 (res_tmp F rfl) ?_))
  exact ⟨_, rfl, rfl, H.pickN 3 0 [1, 2] []⟩
theorem cx3015 {y1 : Nat → BitVec 64} {z1 : Gs} (H : Sx.Own w0 w (Bt g1 [pT g2 0, uH G.lim, uL G.lim] :: Bt g2 (L111 G n y1 v1 z1) :: bs) rs K) : Cr 140 #[pT g1 0, iI 1] w0 w (.tuple #[nS, iI 7]) (Bt g1 [pT g2 0, uH G.lim, uL G.lim] :: Bt g2 (L111 G n y1 v1 z1) :: bs) rs K := by
 refine En Tryz.func140 Tryz.ntmps140 fun A F => ?_
 refine Sp fun _ kk => ?_
 iterate 2 (refine Av F ?_; intro A F)
 refine Nl kk (Sp fun _ kk => Av F fun A F => ?_)
 refine Zv F (d_mkFunc (fv := [pT g1 0]) (cv := []) F rfl rfl rfl) fun A F => ?_
 refine Av F fun A F => ?_
 refine Nl kk (Sx.seq fun K3 hK3 => Sp fun _ kk => ?_)
 iterate 2 (refine Av F ?_; intro A F)
 refine Zv F (d_conv (v := iU 1) F rfl rfl (by kernel_rfl)) fun A F => ?_
 refine Zw F (d_call (vs := [iU 1]) (v := .agg #[iU 0, iU 1]) if_15 F H rfl rfl (Calls.val (v := L17) (Calls.val (wofV_c 1#64 _) (by kernel_rfl) (by kernel_rfl)) rfl (by kernel_rfl))) fun A w F H => ?_
 refine Zx F (d_callCO (fv := [pT g1 0]) (vs := [.agg #[iU 0, iU 1]]) (cv := []) if_141 F rfl rfl rfl (cx3014 H)) ?_
 rintro _ w ⟨rfl, H⟩ A F
 refine Zv F (d_un (v := bT) F rfl rfl rfl) fun A F => ?_
 refine Nl kk (condT F rfl (Sp fun _ kk => ?_))
 iterate 2 (refine Av F ?_; intro A F)
 refine Nl kk (Wr (ret2 F Tryz.results140 (res_tmp F rfl) (res_tmp F rfl) ?_))
 exact ⟨_, rfl, rfl, H.pickN 2 0 [0, 1] []⟩
theorem cx3016 {y1 : Nat → BitVec 64} {z1 : Gs} (H : Sx.Own w0 w (Bt g1 [pT g2 0, uH G.lim, uL G.lim] :: Bt g2 (L111 G n y1 v1 z1) :: bs) rs K) : Cr 102 #[pT g1 0] w0 w (.tuple #[iU 0, iI 7]) (Bt g1 [pT g2 0, uH G.lim, uL G.lim] :: Bt g2 (L111 G n y1 v1 z1) :: bs) rs K := by
 refine En Tryz.func102 Tryz.ntmps102 fun A F => ?_
 refine Sp fun _ kk => ?_
 iterate 2 (refine Av F ?_; intro A F)
 refine Nl kk (Sp fun _ kk => Av F fun A F => ?_)
 refine Zx F (Do if_140 F (cx3015 H)) ?_
 rintro _ w ⟨rfl, H⟩ A F
 iterate 5 (refine Av F ?_; intro A F)
 refine Nl kk (Sx.seq fun K3 hK3 => Sp fun _ kk => ?_)
 iterate 2 (refine Av F ?_; intro A F)
 refine Nl kk (condT F rfl (Sp fun _ kk => ?_))
 iterate 3 (refine Av F ?_; intro A F)
 refine Nl kk (Wr (ret2 F Tryz.results102 (res_tmp F rfl) (res_tmp F rfl) ?_))
 exact ⟨_, rfl, rfl, H.pickN 2 0 [0, 1] []⟩
abbrev L116 (x0 : Bd.Gen) (x1 : BitVec 64) (x2 : BitVec 128) : List Value := [iI x0.k, uN x1, uH x2, uL x2, uN (Bd.noy 0), uN (Bd.noy 1), uN (Bd.noy 2), uN (Bd.noy 3), uN (Bd.noy 4), uN (Bd.noy 5), uN (Bd.noy 6), uN (Bd.noy 7), nS, iI ((Bd.org x0 x1 x2).k), iU ((Bd.org x0 x1 x2).m.toNat), iU ((Bd.org x0 x1 x2).x.a.toNat), iU ((Bd.org x0 x1 x2).x.b.toNat), iU ((Bd.org x0 x1 x2).x.c.toNat), iU ((Bd.org x0 x1 x2).x.d.toNat), uH ((Bd.org x0 x1 x2).s), uL ((Bd.org x0 x1 x2).s), uH ((Bd.org x0 x1 x2).i), uL ((Bd.org x0 x1 x2).i), uH ((Bd.org x0 x1 x2).c), uL ((Bd.org x0 x1 x2).c), iW ((Bd.org x0 x1 x2).k0.toNat), iW ((Bd.org x0 x1 x2).k1.toNat), .bool ((Bd.org x0 x1 x2).b)]
theorem cx3017 (hb : b.toNat ≠ 0) (hat : at'.toNat ≤ G.lim.toNat) (H : Sx.Own w0 w (Bt g1 [pT g2 0, uH G.lim, uL G.lim] :: Bt g2 (L116 G n at') :: bs) rs K) : Cq 106 #[pT g1 0, uN b] w fun x w' => ∃ (a1 : BitVec 64) (j1 : Int) (o2 : BitVec 128) (y2 : Nat → BitVec 64) (v2 : Value) (z2 : Gs), Bd.Told G n at' b a1 j1 o2 ∧ x = .tuple #[uN a1, iI j1] ∧ Sx.Own w0 w' (Bt g1 [pT g2 0, uH G.lim, uL G.lim] :: Bt g2 (L96 G n o2 y2 v2 z2) :: bs) rs K := by
 refine En Tryz.func106 Tryz.ntmps106 fun A F => ?_
 refine Sp fun _ kk => ?_
 iterate 2 (refine Av F ?_; intro A F)
 refine Nl kk (wp_scope_straight (Sx.seq fun K2 hK2 => wp_block (Sp fun _ kk => Av F fun A F => ?_)))
 refine Zn bF F fun A F => ?_
 refine Av F fun A F => ?_
 refine Nl kk (condF F rfl (Sp fun _ kk => Av F fun A F => ?_))
 refine Zv F (Bn bF F rfl rfl rfl (i_eq (beq_false_of_ne (by omega)))) fun A F => ?_
 refine Av F fun A F => ?_
 refine Nl kk (condF F rfl (wp_skip (hK2 _ _ (Sp fun _ kk => Av F fun A F => ?_))))
 refine Nl kk (Sx.seq fun K6 hK6 => wp_label (hK6 _ _ (Sx.seq fun K7 hK7 => wp_block (loop (fun q A w => ∃ (o3 : BitVec 128) (y3 : Nat → BitVec 64) (v3 : Value) (z3 : Gs), q = G.lim.toNat - o3.toNat ∧ at'.toNat ≤ o3.toNat ∧ o3.toNat ≤ G.lim.toNat ∧ Bd.Buf G n at' g2 o3 y3 v3 z3 ∧ Bd.Un G n at' b o3 ∧ Fr 32 A [(0, pT g1 0), (1, uN b)] ∧ Sx.Own w0 w (Bt g1 [pT g2 0, uH G.lim, uL G.lim] :: Bt g2 (L96 G n o3 y3 v3 z3) :: bs) rs K) (G.lim.toNat - at'.toNat) ⟨at', Bd.noy, nS, Bd.org G n at', rfl, Nat.le_refl _, hat, Bd.Buf.start G n at' g2 hat _, Bd.Un.zero _ _ _ _, F.to ⟨rfl, rfl, trivial⟩, H.pickN 2 0 [0, 1] []⟩ ?_))))
 rintro q A w ⟨o3, y3, v3, z3, rfl, ho1, ho2, ppB, hU, F, H⟩
 by_cases ppl : o3.toNat < G.lim.toNat
 ·have hsu := Bd.succ_nat G ppl
  refine wp_block (Sp fun _ kk => Av F fun A F => ?_)
  refine Zx F (Do if_102 F (cx3008 ppB ppl H)) ?_
  rintro _ w ⟨y4, v4, z4, pp1, rfl, H⟩ A F
  iterate 5 (refine Av F ?_; intro A F)
  refine Nl kk (Sx.seq fun K9 hK9 => Sp fun _ kk => ?_)
  iterate 2 (refine Av F ?_; intro A F)
  refine Nl kk (condF F rfl (wp_skip (hK9 _ _ (Sp fun _ kk => Av F fun A F => ?_))))
  refine Nl kk ?_
  cases ht : Bd.taken (Bd.wd G n at' o3) b with
  | true =>
   refine Sp fun _ kk => ?_
   iterate 2 (refine Av F ?_; intro A F)
   refine Zw F (Dc if_22 F H (baccept_y (Bd.wd G n at' o3) b hb (ht) _)) fun A w F H => ?_
   iterate 5 (refine Av F ?_; intro A F)
   refine Nl kk (Sp fun _ kk => Av F fun A F => ?_)
   refine Nl kk (condT F rfl (wp_exit ?_))
   try dsimp only [Exit.then, Exit.jump, Exit.noGoto]
   refine exit_past (by decide) ?_
   try dsimp only [Exit.then, Exit.jump, Exit.noGoto]
   refine exit_here (hK7 _ _ (Sp fun _ kk => ?_))
   iterate 3 (refine Av F ?_; intro A F)
   refine Nl kk (Wr (ret2 F Tryz.results106 (res_tmp F rfl) (res_tmp F rfl) ?_))
   exact ⟨_, rfl, Bd.val (Bd.wd G n at' o3) b, 0, (o3 + 1#128), y4, v4, z4, .inl ⟨rfl, o3, ho1, ppl, rfl, hU, ht, rfl⟩, rfl, H.pickN 2 0 [0, 1] []⟩
  | false =>
   refine Sp fun _ kk => ?_
   iterate 2 (refine Av F ?_; intro A F)
   refine Zw F (Dc if_22 F H (baccept_n (Bd.wd G n at' o3) b hb (ht) _)) fun A w F H => ?_
   iterate 5 (refine Av F ?_; intro A F)
   refine Nl kk (Sp fun _ kk => Av F fun A F => ?_)
   refine Nl kk (condF F rfl (wp_skip ?_))
   try dsimp only [Exit.then, Exit.inBlock, Exit.jump, Exit.noGoto]
   exact ⟨G.lim.toNat - (o3 + 1#128).toNat, by omega, o3 + 1#128, y4, v4, z4, rfl, by omega, by omega, pp1, Bd.Un.succ hU hsu ht, F.to ⟨rfl, rfl, trivial⟩, H.pickN 2 0 [0, 1] []⟩
 ·obtain rfl : o3 = G.lim := BitVec.eq_of_toNat_eq (by omega)
  refine wp_block (Sp fun _ kk => Av F fun A F => ?_)
  refine Zx F (Do if_102 F (cx3016 H)) ?_
  rintro _ w ⟨rfl, H⟩ A F
  iterate 5 (refine Av F ?_; intro A F)
  refine Nl kk (Sx.seq fun K18 hK18 => Sp fun _ kk => ?_)
  iterate 2 (refine Av F ?_; intro A F)
  refine Nl kk (condT F rfl (Sp fun _ kk => ?_))
  iterate 3 (refine Av F ?_; intro A F)
  refine Nl kk (Wr (ret2 F Tryz.results106 (res_tmp F rfl) (res_tmp F rfl) ?_))
  exact ⟨_, rfl, 0#64, 7, G.lim, y3, v3, z3, .inr ⟨rfl, rfl, rfl, hU⟩, rfl, H.pickN 2 0 [0, 1] []⟩
end
end Go.Proofs.YteecadoakmdibaaGreat
