/- What the proof of TopJump leans on: part 11. -/
import Derived.Test.YteecadoakmdibaaGreatQ2
import Derived.Test.YteecadoakmdibaaGreatQ8
import Derived.Test.YteecadoakmdibaaGreatQ9
import Derived.Test.YteecadoakmdibaaGreatQ10
set_option maxRecDepth 100000
set_option maxHeartbeats 4000000
namespace Go.Proofs.YteecadoakmdibaaGreat
open Go Go.RowKit
section
open Sx
variable {w0 w : World} {bs : List Sx.Bx} {rs : List Sx.Rx} {K : Nat → Option Obj}
set_option maxRecDepth 100000 in
theorem cx44 {g1 c1 : Nat} (hbc1 : 16 ≤ c1) (H : Sx.Own w0 w (bs) (⟨true, sL g1 0 16 c1, 5, 1, 16, L120⟩ :: rs) K) : Cq 61 #[sL g1 0 16 c1] w fun x w' => ∃ g11 c4 : Nat, 3 ≤ c4 ∧ x = .tuple #[sL g11 0 3 c4, iI 0] ∧ Sx.Own w0 w' (bs) (⟨true, sL g11 0 3 c4, 71, 9, 3, L119⟩ :: rs) K := by
 refine En Tryz.func61 Tryz.ntmps61 fun A F => ?_
 refine Sp fun _ kk => ?_
 iterate 2 (refine Av F ?_; intro A F)
 refine Nl kk (Sp fun _ kk => Av F fun A F => ?_)
 refine Nl kk (Sp fun _ kk => Av F fun A F => ?_)
 refine Zv F (d_build (qs := #[(0, sL g1 0 16 c1)]) (v := .agg #[sL g1 0 16 c1, bF]) F rfl rfl (by kernel_rfl)) fun A F => ?_
 refine Zb F (d_box F H rfl rfl [sL g1 0 16 c1, bF] rfl) fun g2 A w F H => ?_
 refine Av F fun A F => ?_
 refine Nl kk (Sx.seq fun K4 hK4 => wp_block (wp_loop_rounds 40 ?_))
 try dsimp only [Exit.then, Exit.inBlock, Exit.jump, Exit.noGoto]
 rw [rounds_succ]
 refine Sx.seq fun K5 hK5 => Sp fun _ kk => ?_
 iterate 4 (refine Av F ?_; intro A F)
 refine Zv F (d_lenS el_66 F rfl rfl) fun A F => ?_
 refine Av F fun A F => ?_
 refine Nl kk (condT F rfl (wp_skip (hK5 _ _ (wp_block (Sx.seq fun K7 hK7 => Sp fun _ kk => Av F fun A F => ?_)))))
 refine Zv F (d_lenS el_83 F rfl rfl) fun A F => ?_
 refine Av F fun A F => ?_
 refine Nl kk (condF F rfl (wp_skip (hK7 _ _ (Sp fun _ kk => Av F fun A F => ?_))))
 refine Zx F (Do if_91 F (cx29 (by omega) H)) ?_
 rintro _ w ⟨rfl, H⟩ A F
 iterate 3 (refine Av F ?_; intro A F)
 refine Zb F (d_alloc H rfl L107 zero_71) fun g3 A w F H => ?_
 refine Zs 0 L106 sz_71 F H fun A w F H => ?_
 refine Av F fun A F => ?_
 refine Nl kk (Sx.seq fun K10 hK10 => Sp fun _ kk => ?_)
 iterate 2 (refine Av F ?_; intro A F)
 refine Nl kk (condF F rfl (wp_skip (hK10 _ _ (Sx.plain ?_))))
 iterate 2 (refine Av F ?_; intro A F)
 refine Zg (mk := fun g => sL g 0 1 1) F (d_lit (qs := #[(0, L105)]) (cs := #[iI 0, iI 0, iI 0, iI 1, iU 0, iU 0, iU 0, iU 0, nS]) (E := 71) F H rfl rfl (fun _ => by kernel_rfl)) fun g4 A w F H => ?_
 have H := Sx.Own.nilR H 71 9
 refine Zr (mk := fun v => v) F (d_append (i := 0) (j := 0) el_83 F H rfl rfl rfl rfl rfl rfl rfl rfl (by decide) (by decide)) fun v1 A w F H => ?_
 obtain ⟨g5, c2, rfl, hbc2, hdc2⟩ := H.open (i := 0) rfl (by decide)
 refine Av F fun A F => ?_
 refine Sx.nil ?_
 try dsimp only [Exit.then, Exit.inBlock, Exit.jump, Exit.noGoto]
 rw [rounds_succ]
 refine Sx.seq fun K12 hK12 => Sp fun _ kk => ?_
 iterate 4 (refine Av F ?_; intro A F)
 refine Zv F (d_lenS el_66 F rfl rfl) fun A F => ?_
 refine Av F fun A F => ?_
 refine Nl kk (condT F rfl (wp_skip (hK12 _ _ (wp_block (Sx.seq fun K14 hK14 => Sp fun _ kk => Av F fun A F => ?_)))))
 refine Zv F (d_lenS el_83 F rfl rfl) fun A F => ?_
 refine Av F fun A F => ?_
 refine Nl kk (condF F rfl (wp_skip (hK14 _ _ (Sp fun _ kk => Av F fun A F => ?_))))
 have H := H.pickN 4 1 [2, 3, 0, 1] [0]
 refine Zx F (Do if_91 F (cx36 (by omega) H)) ?_
 rintro _ w ⟨rfl, H⟩ A F
 iterate 3 (refine Av F ?_; intro A F)
 refine Zb F (d_alloc H rfl L107 zero_71) fun g6 A w F H => ?_
 refine Zs 0 L116 sz_71 F H fun A w F H => ?_
 refine Av F fun A F => ?_
 refine Nl kk (Sx.seq fun K17 hK17 => Sp fun _ kk => ?_)
 iterate 2 (refine Av F ?_; intro A F)
 refine Nl kk (condF F rfl (wp_skip (hK17 _ _ (Sx.plain ?_))))
 iterate 2 (refine Av F ?_; intro A F)
 refine Zg (mk := fun g => sL g 0 1 1) F (d_lit (qs := #[(0, L115)]) (cs := #[iI 1, iI 0, iI 0, iI 0, iU 0, iU 0, iU 0, iU 0, nS]) (E := 71) F H rfl rfl (fun _ => by kernel_rfl)) fun g7 A w F H => ?_
 refine Zr (mk := fun v => v) F (d_append (i := 0) (j := 0) el_83 F H rfl rfl rfl rfl rfl rfl rfl rfl (by decide) (by decide)) fun v2 A w F H => ?_
 obtain ⟨g8, c3, rfl, hbc3, hdc3⟩ := H.open (i := 0) rfl (by decide)
 refine Av F fun A F => ?_
 refine Sx.nil ?_
 try dsimp only [Exit.then, Exit.inBlock, Exit.jump, Exit.noGoto]
 rw [rounds_succ]
 refine Sx.seq fun K19 hK19 => Sp fun _ kk => ?_
 iterate 4 (refine Av F ?_; intro A F)
 refine Zv F (d_lenS el_66 F rfl rfl) fun A F => ?_
 refine Av F fun A F => ?_
 refine Nl kk (condT F rfl (wp_skip (hK19 _ _ (wp_block (Sx.seq fun K21 hK21 => Sp fun _ kk => Av F fun A F => ?_)))))
 refine Zv F (d_lenS el_83 F rfl rfl) fun A F => ?_
 refine Av F fun A F => ?_
 refine Nl kk (condF F rfl (wp_skip (hK21 _ _ (Sp fun _ kk => Av F fun A F => ?_))))
 have H := H.pickN 6 1 [2, 3, 0, 1, 4, 5] [0]
 refine Zx F (Do if_91 F (cx43 (by omega) H)) ?_
 rintro _ w ⟨rfl, H⟩ A F
 iterate 3 (refine Av F ?_; intro A F)
 refine Zb F (d_alloc H rfl L107 zero_71) fun g9 A w F H => ?_
 refine Zs 0 L118 sz_71 F H fun A w F H => ?_
 refine Av F fun A F => ?_
 refine Nl kk (Sx.seq fun K24 hK24 => Sp fun _ kk => ?_)
 iterate 2 (refine Av F ?_; intro A F)
 refine Nl kk (condF F rfl (wp_skip (hK24 _ _ (Sx.plain ?_))))
 iterate 2 (refine Av F ?_; intro A F)
 refine Zg (mk := fun g => sL g 0 1 1) F (d_lit (qs := #[(0, L117)]) (cs := #[iI 3, iI 0, iI 0, iI 0, iU 0, iU 0, iU 0, iU 0, nS]) (E := 71) F H rfl rfl (fun _ => by kernel_rfl)) fun g10 A w F H => ?_
 refine Zr (mk := fun v => v) F (d_append (i := 0) (j := 0) el_83 F H rfl rfl rfl rfl rfl rfl rfl rfl (by decide) (by decide)) fun v3 A w F H => ?_
 obtain ⟨g11, c4, rfl, hbc4, hdc4⟩ := H.open (i := 0) rfl (by decide)
 refine Av F fun A F => ?_
 refine Sx.nil ?_
 try dsimp only [Exit.then, Exit.inBlock, Exit.jump, Exit.noGoto]
 rw [rounds_succ]
 refine Sx.seq fun K26 hK26 => Sp fun _ kk => ?_
 iterate 4 (refine Av F ?_; intro A F)
 refine Zv F (d_lenS el_66 F rfl rfl) fun A F => ?_
 refine Av F fun A F => ?_
 refine Nl kk (condF F rfl (wp_exit ?_))
 try dsimp only [Exit.then, Exit.jump, Exit.noGoto]
 refine exit_here (hK4 _ _ (Sp fun _ kk => ?_))
 iterate 3 (refine Av F ?_; intro A F)
 refine Nl kk (Wr (ret2 F Tryz.results61 (res_tmp F rfl) (res_tmp F rfl) ?_))
 exact ⟨_, rfl, g11, c4, (by omega), rfl, H.pickN 8 1 [] [0]⟩
set_option maxRecDepth 100000 in
theorem cx45 {g1 c1 : Nat} (hbc1 : 3 ≤ c1) (H : Sx.Own w0 w (bs) (⟨true, sL g1 0 3 c1, 71, 9, 3, L119⟩ :: rs) K) : Cq 62 #[sL g1 0 3 c1] w fun x w' => x = bF ∧ Sx.Own w0 w' (bs) (⟨true, sL g1 0 3 c1, 71, 9, 3, L119⟩ :: rs) K := by
 refine En Tryz.func62 Tryz.ntmps62 fun A F => ?_
 refine Sp fun _ kk => Av F fun A F => ?_
 refine Nl kk (Sx.seq fun K2 hK2 => Sp fun _ kk => Av F fun A F => ?_)
 refine Zv F (d_lenS el_83 F rfl rfl) fun A F => ?_
 refine Av F fun A F => ?_
 refine Nl kk (condF F rfl (wp_skip (hK2 _ _ (Sx.seq fun K4 hK4 => Sp fun _ kk => Av F fun A F => ?_))))
 refine Zv F (d_lenS el_83 F rfl rfl) fun A F => ?_
 refine Av F fun A F => ?_
 refine Nl kk (wp_block (wp_loop_rounds 40 ?_))
 try dsimp only [Exit.then, Exit.inBlock, Exit.jump, Exit.noGoto]
 rw [rounds_succ]
 refine Sp fun _ kk => Av F fun A F => ?_
 refine Nl kk (Sx.seq fun K7 hK7 => condT F rfl (wp_skip (hK7 _ _ (Sx.seq fun K8 hK8 => wp_block (Sp fun _ kk => Zv F (d_ixZ (k := 0) (g := g1) (off := 0) (z := 9) el_83 F rfl rfl rfl rfl rfl (by omega)) fun A F => ?_)))))
 refine Zv F (Lr 0 L106 rw_71 F (H.rowBox (i := 0) rfl)) fun A F => ?_
 refine Zb F (d_alloc H rfl L107 zero_71) fun g2 A w F H => ?_
 refine Zs 0 L106 sz_71 F H fun A w F H => ?_
 refine Nl kk (Sp fun _ kk => ?_)
 iterate 2 (refine Av F ?_; intro A F)
 refine Zv F (d_lenS el_66 F rfl rfl) fun A F => ?_
 refine Av F fun A F => ?_
 refine Nl kk (condF F rfl (wp_skip (hK8 _ _ (Sx.plain ?_))))
 refine Zn (iI 1) F fun A F => ?_
 refine Av F fun A F => ?_
 refine Sx.nil ?_
 try dsimp only [Exit.then, Exit.inBlock, Exit.jump, Exit.noGoto]
 rw [rounds_succ]
 refine Sp fun _ kk => Av F fun A F => ?_
 refine Nl kk (Sx.seq fun K12 hK12 => condT F rfl (wp_skip (hK12 _ _ (Sx.seq fun K13 hK13 => wp_block (Sp fun _ kk => Zv F (d_ixZ (k := 1) (g := g1) (off := 0) (z := 9) el_83 F rfl rfl rfl rfl rfl (by omega)) fun A F => ?_)))))
 refine Zv F (Lr 0 L116 rw_71 F (H.rowBox (i := 0) rfl)) fun A F => ?_
 refine Zb F (d_alloc H rfl L107 zero_71) fun g3 A w F H => ?_
 refine Zs 0 L116 sz_71 F H fun A w F H => ?_
 refine Nl kk (Sp fun _ kk => ?_)
 iterate 2 (refine Av F ?_; intro A F)
 refine Zv F (d_lenS el_66 F rfl rfl) fun A F => ?_
 refine Av F fun A F => ?_
 refine Nl kk (condF F rfl (wp_skip (hK13 _ _ (Sx.plain ?_))))
 refine Zn (iI 2) F fun A F => ?_
 refine Av F fun A F => ?_
 refine Sx.nil ?_
 try dsimp only [Exit.then, Exit.inBlock, Exit.jump, Exit.noGoto]
 rw [rounds_succ]
 refine Sp fun _ kk => Av F fun A F => ?_
 refine Nl kk (Sx.seq fun K17 hK17 => condT F rfl (wp_skip (hK17 _ _ (Sx.seq fun K18 hK18 => wp_block (Sp fun _ kk => Zv F (d_ixZ (k := 2) (g := g1) (off := 0) (z := 9) el_83 F rfl rfl rfl rfl rfl (by omega)) fun A F => ?_)))))
 refine Zv F (Lr 0 L118 rw_71 F (H.rowBox (i := 0) rfl)) fun A F => ?_
 refine Zb F (d_alloc H rfl L107 zero_71) fun g4 A w F H => ?_
 refine Zs 0 L118 sz_71 F H fun A w F H => ?_
 refine Nl kk (Sp fun _ kk => ?_)
 iterate 2 (refine Av F ?_; intro A F)
 refine Zv F (d_lenS el_66 F rfl rfl) fun A F => ?_
 refine Av F fun A F => ?_
 refine Nl kk (condF F rfl (wp_skip (hK18 _ _ (Sx.plain ?_))))
 refine Zn (iI 3) F fun A F => ?_
 refine Av F fun A F => ?_
 refine Sx.nil ?_
 try dsimp only [Exit.then, Exit.inBlock, Exit.jump, Exit.noGoto]
 rw [rounds_succ]
 refine Sp fun _ kk => Av F fun A F => ?_
 refine Nl kk (Sx.seq fun K22 hK22 => condF F rfl (wp_exit ?_))
 try dsimp only [Exit.then, Exit.jump, Exit.noGoto]
 refine exit_here (hK4 _ _ (Sp fun _ kk => Av F fun A F => ?_))
 refine Nl kk (Wr (ret1 F Tryz.results62 (res_tmp F rfl) ?_))
 exact ⟨_, rfl, rfl, H.pickN 3 1 [] [0]⟩
set_option maxRecDepth 100000 in
theorem cx46 {g1 c1 : Nat} (hbc1 : 16 ≤ c1) (H : Sx.Own w0 w (bs) (⟨true, sL g1 0 16 c1, 5, 1, 16, L120⟩ :: rs) K) : Cq 24 #[sL g1 0 16 c1] w fun x w' => ∃ g2 c2 : Nat, 3 ≤ c2 ∧ x = .tuple #[sL g2 0 3 c2, bT] ∧ Sx.Own w0 w' (bs) (⟨true, sL g2 0 3 c2, 71, 9, 3, L119⟩ :: rs) K := by
 refine En Tryz.func24 Tryz.ntmps24 fun A F => ?_
 refine Sp fun _ kk => ?_
 iterate 2 (refine Av F ?_; intro A F)
 refine Nl kk (Sx.seq fun K2 hK2 => Sp fun _ kk => Av F fun A F => ?_)
 refine Zv F (d_lenS el_66 F rfl rfl) fun A F => ?_
 refine Av F fun A F => ?_
 refine Nl kk (condF F rfl (wp_skip (hK2 _ _ (Sp fun _ kk => Av F fun A F => ?_))))
 refine Zx F (Do if_61 F (cx44 (by omega) H)) ?_
 rintro _ w ⟨g2, c2, hbc2, rfl, H⟩ A F
 iterate 5 (refine Av F ?_; intro A F)
 refine Nl kk (Sp fun _ kk => ?_)
 iterate 5 (refine Av F ?_; intro A F)
 refine Zv F (d_lenS el_83 F rfl rfl) fun A F => ?_
 iterate 4 (refine Av F ?_; intro A F)
 refine Zx F (Do if_62 F (cx45 (by omega) H)) ?_
 rintro _ w ⟨rfl, H⟩ A F
 refine Zv F (d_un (v := bT) F rfl rfl rfl) fun A F => ?_
 iterate 3 (refine Av F ?_; intro A F)
 refine Nl kk (Wr (ret2 F Tryz.results24 (res_tmp F rfl) (res_tmp F rfl) ?_))
 exact ⟨_, rfl, g2, c2, (by omega), rfl, H.pickN 0 1 [] [0]⟩
set_option maxRecDepth 100000 in
theorem cx47   (H : Sx.Own w0 w (bs) (rs) K) : Cq 18 #[] w fun x w' => ∃ g1 : Nat, x = pT g1 0 ∧ Sx.Own w0 w' ((true, g1, [nP]) :: bs) (rs) K := by
 refine En Tryz.func18 Tryz.ntmps18 fun A F => ?_
 refine Sp fun _ kk => Av F fun A F => ?_
 refine Nl kk (Sp fun _ kk => Zv F (d_build (qs := #[]) (v := .agg #[nP]) F rfl rfl (by kernel_rfl)) fun A F => ?_)
 refine Zb F (d_box F H rfl rfl [nP] rfl) fun g1 A w F H => ?_
 refine Av F fun A F => ?_
 refine Nl kk (Wr (ret1 F Tryz.results18 (res_tmp F rfl) ?_))
 exact ⟨_, rfl, g1, rfl, H.pickN 1 0 [0] []⟩
set_option maxRecDepth 100000 in
theorem cx48 {g1 : Nat}  (H : Sx.Own w0 w ((true, g1, [nP]) :: bs) (rs) K) : Cq 53 #[pT g1 0] w fun x w' => x = bT ∧ Sx.Own w0 w' ((true, g1, [nP]) :: bs) (rs) K := by
 refine En Tryz.func53 Tryz.ntmps53 fun A F => ?_
 refine Sp fun _ kk => Av F fun A F => ?_
 refine Nl kk (Sp fun _ kk => ?_)
 iterate 4 (refine Av F ?_; intro A F)
 refine Zn bT F fun A F => ?_
 refine Av F fun A F => ?_
 refine Nl kk (Wr (ret1 F Tryz.results53 (res_tmp F rfl) ?_))
 exact ⟨_, rfl, rfl, H.pickN 1 0 [0] []⟩
set_option maxRecDepth 100000 in
theorem cx49   (H : Sx.Own w0 w (bs) (rs) K) : Cq 130 #[] w fun x w' => ∃ g1 : Nat, x = pT g1 0 ∧ Sx.Own w0 w' ((true, g1, [nS, iI 0]) :: bs) (rs) K := by
 refine En Tryz.func130 Tryz.ntmps130 fun A F => ?_
 refine Sp fun _ kk => Av F fun A F => ?_
 refine Nl kk (Sp fun _ kk => Zv F (d_build (qs := #[]) (v := .agg #[nS, iI 0]) F rfl rfl (by kernel_rfl)) fun A F => ?_)
 refine Zb F (d_box F H rfl rfl [nS, iI 0] rfl) fun g1 A w F H => ?_
 refine Av F fun A F => ?_
 refine Nl kk (Wr (ret1 F Tryz.results130 (res_tmp F rfl) ?_))
 exact ⟨_, rfl, g1, rfl, H.pickN 1 0 [0] []⟩
set_option maxRecDepth 100000 in
abbrev L126 : Value := .agg #[iU 0, iU 9223372036854775808]
theorem cx50   (H : Sx.Own w0 w (bs) (rs) K) : Cq 93 #[iI 1, iU 0] w fun x w' => ∃ g2 g1 : Nat, x = .tuple #[pT g2 0, iI 0] ∧ Sx.Own w0 w' ((true, g2, [pT g1 0, iI 1, iU 0]) :: (true, g1, [nS, iI 0]) :: bs) (rs) K := by
 refine En Tryz.func93 Tryz.ntmps93 fun A F => ?_
 refine Sp fun _ kk => ?_
 iterate 2 (refine Av F ?_; intro A F)
 refine Nl kk (Sx.seq fun K2 hK2 => Sp fun _ kk => Av F fun A F => ?_)
 refine Zw F (Dc (v := L126) if_17 F H (Calls.val (v := L95) (glimit1_c _) rfl (by kernel_rfl))) fun A w F H => ?_
 refine Zv F (d_build (qs := #[]) (v := .agg #[iU 0, iU 0]) F rfl rfl (by kernel_rfl)) fun A F => ?_
 refine Zn bF F fun A F => ?_
 refine Nl kk (condF F rfl (wp_skip (hK2 _ _ (Sp fun _ kk => Zx F (Do if_130 F (cx49 H)) ?_))))
 rintro _ w ⟨g1, rfl, H⟩ A F
 iterate 2 (refine Av F ?_; intro A F)
 refine Zv F (d_build (qs := #[(0, pT g1 0), (1, iI 1), (2, iU 0)]) (v := .agg #[pT g1 0, iI 1, iU 0]) F rfl rfl (by kernel_rfl)) fun A F => ?_
 refine Zb F (d_box F H rfl rfl [pT g1 0, iI 1, iU 0] rfl) fun g2 A w F H => ?_
 iterate 2 (refine Av F ?_; intro A F)
 refine Nl kk (Wr (ret2 F Tryz.results93 (res_tmp F rfl) (res_tmp F rfl) ?_))
 exact ⟨_, rfl, g2, g1, rfl, H.pickN 2 0 [0, 1] []⟩
set_option maxRecDepth 100000 in
abbrev L127 : Value := .agg #[iU 0, iU 0, iU 0, iU 9223372036854775808]
abbrev L128 : List Value := [iU 0, iU 0, iU 0, iU 9223372036854775808]
theorem cx51   (H : Sx.Own w0 w (bs) (rs) K) : Cq 119 #[L127] w fun x w' => x = bT ∧ Sx.Own w0 w' (bs) (rs) K := by
 refine En Tryz.func119 Tryz.ntmps119 fun A F => ?_
 refine Sp fun _ kk => Zb F (d_box F H rfl rfl L128 rfl) fun g1 A w F H => ?_
 refine Av F fun A F => ?_
 refine Nl kk (Sp fun _ kk => ?_)
 iterate 4 (refine Av F ?_; intro A F)
 refine Zw F (Dc (v := iI (-1)) if_16 F H (Calls.val (v := iI (Wd.cmp 0#128 9223372036854775808#128)) (wcmp_c 0#128 9223372036854775808#128 _) rfl (by kernel_rfl))) fun A w F H => ?_
 iterate 2 (refine Av F ?_; intro A F)
 refine Nl kk (Wr (ret1 F Tryz.results119 (res_tmp F rfl) ?_))
 exact ⟨_, rfl, rfl, H.pickN 1 0 [] []⟩
set_option maxRecDepth 100000 in
theorem cx52 {g1 : Nat}  (H : Sx.Own w0 w ((true, g1, [nS, iI 0]) :: bs) (rs) K) : Cq 82 #[pT g1 0] w fun x w' => x = nS ∧ Sx.Own w0 w' ((true, g1, [nS, iI 0]) :: bs) (rs) K := by
 refine En Tryz.func82 Tryz.ntmps82 fun A F => ?_
 refine Sp fun _ kk => Av F fun A F => ?_
 refine Nl kk (Sp fun _ kk => Av F fun A F => ?_)
 refine Nl kk (Sx.seq fun K3 hK3 => Sp fun _ kk => ?_)
 iterate 4 (refine Av F ?_; intro A F)
 refine Zv F (d_lenS el_213 F rfl rfl) fun A F => ?_
 refine Av F fun A F => ?_
 refine Nl kk (wp_block (wp_loop_rounds 40 ?_))
 try dsimp only [Exit.then, Exit.inBlock, Exit.jump, Exit.noGoto]
 rw [rounds_succ]
 refine Sp fun _ kk => Av F fun A F => ?_
 refine Nl kk (Sx.seq fun K6 hK6 => condF F rfl (wp_exit ?_))
 try dsimp only [Exit.then, Exit.jump, Exit.noGoto]
 refine exit_here (hK3 _ _ (Sp fun _ kk => ?_))
 iterate 2 (refine Av F ?_; intro A F)
 refine Nl kk (Wr (ret1 F Tryz.results82 (res_tmp F rfl) ?_))
 exact ⟨_, rfl, rfl, H.pickN 1 0 [0] []⟩
set_option maxRecDepth 100000 in
theorem cx53 {g1 g2 : Nat}  (H : Sx.Own w0 w ((true, g1, [pT g2 0, iI 1, iU 0]) :: (true, g2, [nS, iI 0]) :: bs) (rs) K) : Cq 56 #[pT g1 0] w fun x w' => x = nS ∧ Sx.Own w0 w' ((true, g1, [pT g2 0, iI 1, iU 0]) :: (true, g2, [nS, iI 0]) :: bs) (rs) K := by
 refine En Tryz.func56 Tryz.ntmps56 fun A F => ?_
 refine Sp fun _ kk => Av F fun A F => ?_
 refine Nl kk (Sp fun _ kk => Av F fun A F => ?_)
 refine Nl kk (Sx.seq fun K3 hK3 => Sp fun _ kk => ?_)
 iterate 4 (refine Av F ?_; intro A F)
 have H := H.pickN 2 0 [1, 0] []
 refine Zx F (Do if_82 F (cx52 H)) ?_
 rintro _ w ⟨rfl, H⟩ A F
 refine Zv F (d_lenS el_54 F rfl rfl) fun A F => ?_
 refine Av F fun A F => ?_
 refine Nl kk (wp_block (wp_loop_rounds 40 ?_))
 try dsimp only [Exit.then, Exit.inBlock, Exit.jump, Exit.noGoto]
 rw [rounds_succ]
 refine Sp fun _ kk => Av F fun A F => ?_
 refine Nl kk (Sx.seq fun K6 hK6 => condF F rfl (wp_exit ?_))
 try dsimp only [Exit.then, Exit.jump, Exit.noGoto]
 refine exit_here (hK3 _ _ (Sp fun _ kk => ?_))
 iterate 2 (refine Av F ?_; intro A F)
 refine Nl kk (Wr (ret1 F Tryz.results56 (res_tmp F rfl) ?_))
 exact ⟨_, rfl, rfl, H.pickN 2 0 [1, 0] []⟩
set_option maxRecDepth 100000 in
theorem cx54 {g1 : Nat}  (H : Sx.Own w0 w ((true, g1, L128) :: bs) (rs) K) : Cq 153 #[nS, .func (.func 132) #[] #[pT g1 0]] w fun x w' => x = iI (-1) ∧ Sx.Own w0 w' ((true, g1, L128) :: bs) (rs) K := by
 refine En Tryz.func153 Tryz.ntmps153 fun A F => ?_
 refine Sp fun _ kk => Av F fun A F => ?_
 refine Nl kk (Sx.seq fun K2 hK2 => Sp fun _ kk => Av F fun A F => ?_)
 refine Zv F (d_lenS el_74 F rfl rfl) fun A F => ?_
 refine Av F fun A F => ?_
 refine Nl kk (wp_block (wp_loop_rounds 40 ?_))
 try dsimp only [Exit.then, Exit.inBlock, Exit.jump, Exit.noGoto]
 rw [rounds_succ]
 refine Sp fun _ kk => Av F fun A F => ?_
 refine Nl kk (Sx.seq fun K5 hK5 => condF F rfl (wp_exit ?_))
 try dsimp only [Exit.then, Exit.jump, Exit.noGoto]
 refine exit_here (hK2 _ _ (Sp fun _ kk => Av F fun A F => ?_))
 refine Nl kk (Wr (ret1 F Tryz.results153 (res_tmp F rfl) ?_))
 exact ⟨_, rfl, rfl, H.pickN 1 0 [0] []⟩
set_option maxRecDepth 100000 in
theorem cx55 {g1 : Nat}  (H : Sx.Own w0 w ((true, g1, L128) :: bs) (rs) K) : Cq 131 #[nS, .func (.func 132) #[] #[pT g1 0]] w fun x w' => x = bF ∧ Sx.Own w0 w' ((true, g1, L128) :: bs) (rs) K := by
 refine En Tryz.func131 Tryz.ntmps131 fun A F => ?_
 refine Sp fun _ kk => Av F fun A F => ?_
 refine Nl kk (Sp fun _ kk => ?_)
 iterate 2 (refine Av F ?_; intro A F)
 refine Zx F (Do if_153 F (cx54 H)) ?_
 rintro _ w ⟨rfl, H⟩ A F
 iterate 2 (refine Av F ?_; intro A F)
 refine Nl kk (Wr (ret1 F Tryz.results131 (res_tmp F rfl) ?_))
 exact ⟨_, rfl, rfl, H.pickN 1 0 [0] []⟩
set_option maxRecDepth 100000 in
abbrev L129 : Value := .agg #[iI 1, .func (.func 145) #[] #[], iI 2, .func (.func 146) #[] #[], iI 3, .func (.func 147) #[] #[], iI 4, .func (.func 148) #[] #[]]
abbrev L130 : Value := .agg #[iI 1, .func (.func 145) #[] #[]]
abbrev L131 : List Value := [iI 1, .func (.func 145) #[] #[], iI 2, .func (.func 146) #[] #[], iI 3, .func (.func 147) #[] #[], iI 4, .func (.func 148) #[] #[]]
theorem cx56   (H : Sx.Own w0 w (bs) (rs) K) : Cq 121 #[] w fun x w' => x = L129 ∧ Sx.Own w0 w' (bs) (rs) K := by
 refine En Tryz.func121 Tryz.ntmps121 fun A F => ?_
 refine Sp fun _ kk => Zb F (d_alloc H rfl L104 zero_209) fun g1 A w F H => ?_
 refine Nl kk (Sp fun _ kk => Zv F (d_build (qs := #[(0, iI 1), (1, .func (.func 145) #[] #[])]) (v := L130) F rfl rfl (by kernel_rfl)) fun A F => ?_)
 refine Zv F (d_build (qs := #[(0, iI 2), (1, .func (.func 146) #[] #[])]) (v := .agg #[iI 2, .func (.func 146) #[] #[]]) F rfl rfl (by kernel_rfl)) fun A F => ?_
 refine Zv F (d_build (qs := #[(0, iI 3), (1, .func (.func 147) #[] #[])]) (v := .agg #[iI 3, .func (.func 147) #[] #[]]) F rfl rfl (by kernel_rfl)) fun A F => ?_
 refine Zv F (d_build (qs := #[(0, iI 4), (1, .func (.func 148) #[] #[])]) (v := .agg #[iI 4, .func (.func 148) #[] #[]]) F rfl rfl (by kernel_rfl)) fun A F => ?_
 refine Zv F (d_build (qs := #[(0, L130), (1, .agg #[iI 2, .func (.func 146) #[] #[]]), (2, .agg #[iI 3, .func (.func 147) #[] #[]]), (3, .agg #[iI 4, .func (.func 148) #[] #[]])]) (v := L129) F rfl rfl (by kernel_rfl)) fun A F => ?_
 refine Zs 0 L131 sz_209 F H fun A w F H => ?_
 refine Nl kk (Wr (ret1 F Tryz.results121 (res_row (i := 0) (xs := L131) rw_209 F H rfl rfl rfl rfl) ?_))
 exact ⟨_, rfl, rfl, H.pickN 1 0 [] []⟩
set_option maxRecDepth 100000 in
abbrev L132 : List Value := [iU 16294208416658607535, iU 7960286522194355700, iU 487617019471545679, iU 17909611376780542444]
theorem cx57   (H : Sx.Own w0 w (bs) (rs) K) : Cq 122 #[iU 0, iI 4] w fun x w' => ∃ g8 c4 : Nat, 4 ≤ c4 ∧ x = .tuple #[sL g8 0 4 c4, iU 8709371129873690708, iI 0] ∧ Sx.Own w0 w' (bs) (⟨true, sL g8 0 4 c4, 22, 1, 4, L132⟩ :: rs) K := by
 refine En Tryz.func122 Tryz.ntmps122 fun A F => ?_
 refine Sp fun _ kk => ?_
 iterate 3 (refine Av F ?_; intro A F)
 refine Nl kk (Sx.seq fun K2 hK2 => Sp fun _ kk => ?_)
 iterate 6 (refine Av F ?_; intro A F)
 refine Nl kk (condF F rfl (wp_skip (hK2 _ _ (Sp fun _ kk => Av F fun A F => ?_))))
 refine Nl kk (Sx.seq fun K5 hK5 => Sp fun _ kk => ?_)
 iterate 2 (refine Av F ?_; intro A F)
 refine Nl kk (wp_block (wp_loop_rounds 40 ?_))
 try dsimp only [Exit.then, Exit.inBlock, Exit.jump, Exit.noGoto]
 rw [rounds_succ]
 refine Sp fun _ kk => Av F fun A F => ?_
 refine Nl kk (Sx.seq fun K8 hK8 => condT F rfl (wp_skip (hK8 _ _ (Sx.seq fun K9 hK9 => wp_block (Sp fun _ kk => ?_)))))
 iterate 2 (refine Av F ?_; intro A F)
 refine Zw F (Dc (v := iU 16294208416658607535) if_149 F H (Calls.val (v := uN (Mx.word 0#64)) (mword_c 0#64 _) rfl (by kernel_rfl))) fun A w F H => ?_
 refine Zg (mk := fun g => sL g 0 1 1) F (d_lit (qs := #[(0, iU 16294208416658607535)]) (cs := #[iU 16294208416658607535]) (E := 22) F H rfl rfl (fun _ => by kernel_rfl)) fun g1 A w F H => ?_
 have H := Sx.Own.nilR H 22 1
 refine Zr (mk := fun v => v) F (d_append (i := 0) (j := 0) el_65 F H rfl rfl rfl rfl rfl rfl rfl rfl (by decide) (by decide)) fun v1 A w F H => ?_
 obtain ⟨g2, c1, rfl, hbc1, hdc1⟩ := H.open (i := 0) rfl (by decide)
 refine Av F fun A F => ?_
 refine Nl kk (Sx.plain ?_)
 refine Av F fun A F => ?_
 refine Zv F (d_callq (vs := [iU 0]) (v := iU 11400714819323198485) if_150 F rfl rfl (Calls.val (v := uN (Mx.step 0#64)) (mstep_c 0#64 _) rfl (by kernel_rfl))) fun A F => ?_
 refine Av F fun A F => ?_
 refine Sx.nil (hK9 _ _ (Sx.plain ?_))
 refine Zn (iI 1) F fun A F => ?_
 refine Av F fun A F => ?_
 refine Sx.nil ?_
 try dsimp only [Exit.then, Exit.inBlock, Exit.jump, Exit.noGoto]
 rw [rounds_succ]
 refine Sp fun _ kk => Av F fun A F => ?_
 refine Nl kk (Sx.seq fun K12 hK12 => condT F rfl (wp_skip (hK12 _ _ (Sx.seq fun K13 hK13 => wp_block (Sp fun _ kk => ?_)))))
 iterate 2 (refine Av F ?_; intro A F)
 refine Zw F (Dc (v := iU 7960286522194355700) if_149 F H (Calls.val (v := uN (Mx.word 11400714819323198485#64)) (mword_c 11400714819323198485#64 _) rfl (by kernel_rfl))) fun A w F H => ?_
 refine Zg (mk := fun g => sL g 0 1 1) F (d_lit (qs := #[(0, iU 7960286522194355700)]) (cs := #[iU 7960286522194355700]) (E := 22) F H rfl rfl (fun _ => by kernel_rfl)) fun g3 A w F H => ?_
 refine Zr (mk := fun v => v) F (d_append (i := 0) (j := 0) el_65 F H rfl rfl rfl rfl rfl rfl rfl rfl (by decide) (by decide)) fun v2 A w F H => ?_
 obtain ⟨g4, c2, rfl, hbc2, hdc2⟩ := H.open (i := 0) rfl (by decide)
 refine Av F fun A F => ?_
 refine Nl kk (Sx.plain ?_)
 refine Av F fun A F => ?_
 refine Zv F (d_callq (vs := [iU 11400714819323198485]) (v := iU 4354685564936845354) if_150 F rfl rfl (Calls.val (v := uN (Mx.step 11400714819323198485#64)) (mstep_c 11400714819323198485#64 _) rfl (by kernel_rfl))) fun A F => ?_
 refine Av F fun A F => ?_
 refine Sx.nil (hK13 _ _ (Sx.plain ?_))
 refine Zn (iI 2) F fun A F => ?_
 refine Av F fun A F => ?_
 refine Sx.nil ?_
 try dsimp only [Exit.then, Exit.inBlock, Exit.jump, Exit.noGoto]
 rw [rounds_succ]
 refine Sp fun _ kk => Av F fun A F => ?_
 refine Nl kk (Sx.seq fun K16 hK16 => condT F rfl (wp_skip (hK16 _ _ (Sx.seq fun K17 hK17 => wp_block (Sp fun _ kk => ?_)))))
 iterate 2 (refine Av F ?_; intro A F)
 refine Zw F (Dc (v := iU 487617019471545679) if_149 F H (Calls.val (v := uN (Mx.word 4354685564936845354#64)) (mword_c 4354685564936845354#64 _) rfl (by kernel_rfl))) fun A w F H => ?_
 refine Zg (mk := fun g => sL g 0 1 1) F (d_lit (qs := #[(0, iU 487617019471545679)]) (cs := #[iU 487617019471545679]) (E := 22) F H rfl rfl (fun _ => by kernel_rfl)) fun g5 A w F H => ?_
 refine Zr (mk := fun v => v) F (d_append (i := 0) (j := 0) el_65 F H rfl rfl rfl rfl rfl rfl rfl rfl (by decide) (by decide)) fun v3 A w F H => ?_
 obtain ⟨g6, c3, rfl, hbc3, hdc3⟩ := H.open (i := 0) rfl (by decide)
 refine Av F fun A F => ?_
 refine Nl kk (Sx.plain ?_)
 refine Av F fun A F => ?_
 refine Zv F (d_callq (vs := [iU 4354685564936845354]) (v := iU 15755400384260043839) if_150 F rfl rfl (Calls.val (v := uN (Mx.step 4354685564936845354#64)) (mstep_c 4354685564936845354#64 _) rfl (by kernel_rfl))) fun A F => ?_
 refine Av F fun A F => ?_
 refine Sx.nil (hK17 _ _ (Sx.plain ?_))
 refine Zn (iI 3) F fun A F => ?_
 refine Av F fun A F => ?_
 refine Sx.nil ?_
 try dsimp only [Exit.then, Exit.inBlock, Exit.jump, Exit.noGoto]
 rw [rounds_succ]
 refine Sp fun _ kk => Av F fun A F => ?_
 refine Nl kk (Sx.seq fun K20 hK20 => condT F rfl (wp_skip (hK20 _ _ (Sx.seq fun K21 hK21 => wp_block (Sp fun _ kk => ?_)))))
 iterate 2 (refine Av F ?_; intro A F)
 refine Zw F (Dc (v := iU 17909611376780542444) if_149 F H (Calls.val (v := uN (Mx.word 15755400384260043839#64)) (mword_c 15755400384260043839#64 _) rfl (by kernel_rfl))) fun A w F H => ?_
 refine Zg (mk := fun g => sL g 0 1 1) F (d_lit (qs := #[(0, iU 17909611376780542444)]) (cs := #[iU 17909611376780542444]) (E := 22) F H rfl rfl (fun _ => by kernel_rfl)) fun g7 A w F H => ?_
 refine Zr (mk := fun v => v) F (d_append (i := 0) (j := 0) el_65 F H rfl rfl rfl rfl rfl rfl rfl rfl (by decide) (by decide)) fun v4 A w F H => ?_
 obtain ⟨g8, c4, rfl, hbc4, hdc4⟩ := H.open (i := 0) rfl (by decide)
 refine Av F fun A F => ?_
 refine Nl kk (Sx.plain ?_)
 refine Av F fun A F => ?_
 refine Zv F (d_callq (vs := [iU 15755400384260043839]) (v := iU 8709371129873690708) if_150 F rfl rfl (Calls.val (v := uN (Mx.step 15755400384260043839#64)) (mstep_c 15755400384260043839#64 _) rfl (by kernel_rfl))) fun A F => ?_
 refine Av F fun A F => ?_
 refine Sx.nil (hK21 _ _ (Sx.plain ?_))
 refine Zn (iI 4) F fun A F => ?_
 refine Av F fun A F => ?_
 refine Sx.nil ?_
 try dsimp only [Exit.then, Exit.inBlock, Exit.jump, Exit.noGoto]
 rw [rounds_succ]
 refine Sp fun _ kk => Av F fun A F => ?_
 refine Nl kk (Sx.seq fun K24 hK24 => condF F rfl (wp_exit ?_))
 try dsimp only [Exit.then, Exit.jump, Exit.noGoto]
 refine exit_here (hK5 _ _ (Sp fun _ kk => ?_))
 iterate 5 (refine Av F ?_; intro A F)
 refine Nl kk (Wr (ret3 F Tryz.results122 (res_tmp F rfl) (res_tmp F rfl) (res_tmp F rfl) ?_))
 exact ⟨_, rfl, g8, c4, (by omega), rfl, H.pickN 4 1 [] [0]⟩
set_option maxRecDepth 100000 in
abbrev L133 : Value := .agg #[iU 16294208416658607535, iU 7960286522194355700, iU 487617019471545679, iU 17909611376780542444]
abbrev L134 : Value := .agg #[iI 0, iU 0, iU 0, iU 0, iU 0, iU 0, iU 0, iU 0, iU 0, iU 0, iU 0, iU 0, iW 0, iW 0, bF]
abbrev L135 : List Value := [iI 0, iU 0, iU 0, iU 0, iU 0, iU 0, iU 0, iU 0, iU 0, iU 0, iU 0, iU 0, iW 0, iW 0, bF]
theorem cx58   (H : Sx.Own w0 w (bs) (rs) K) : Cq 145 #[iU 0, L133] w fun x w' => x = L134 ∧ Sx.Own w0 w' (bs) (rs) K := by
 refine En Tryz.func145 Tryz.ntmps145 fun A F => ?_
 refine Sp fun _ kk => Zb F (d_box F H rfl rfl L132 rfl) fun g1 A w F H => ?_
 refine Zb F (d_alloc H rfl L135 zero_35) fun g2 A w F H => ?_
 refine Nl kk (Sp fun _ kk => Av F fun A F => ?_)
 refine Zv F (d_build (qs := #[(1, iU 0)]) (v := L134) F rfl rfl (by kernel_rfl)) fun A F => ?_
 refine Zs 0 L135 sz_35 F H fun A w F H => ?_
 refine Nl kk (Wr (ret1 F Tryz.results145 (res_row (i := 0) (xs := L135) rw_35 F H rfl rfl rfl rfl) ?_))
 exact ⟨_, rfl, rfl, H.pickN 2 0 [] []⟩
set_option maxRecDepth 100000 in
abbrev L137 : Value := .tuple #[.agg #[iI 1, iU 0, iU 0, iU 0, iU 0, iU 0, iU 0, iU 0, iU 0, iU 0, iU 0, iU 0, iW 0, iW 0, bF], iI 0]
abbrev L138 : List Value := [iI 1, iU 0, iU 0, iU 0, iU 0, iU 0, iU 0, iU 0, iU 0, iU 0, iU 0, iU 0, iW 0, iW 0, bF]
theorem cx59   (H : Sx.Own w0 w (bs) (rs) K) : Cq 81 #[iI 1, iU 0] w fun x w' => x = L137 ∧ Sx.Own w0 w' (bs) (rs) K := by
 refine En Tryz.func81 Tryz.ntmps81 fun A F => ?_
 refine Sp fun _ kk => Zb F (d_alloc H rfl L135 zero_35) fun g1 A w F H => ?_
 refine Av F fun A F => ?_
 refine Nl kk (Sx.seq fun K2 hK2 => Sp fun _ kk => Zx F (Do if_121 F (cx56 H)) ?_)
 rintro _ w ⟨rfl, H⟩ A F
 refine Av F fun A F => ?_
 refine Nl kk (wp_block (wp_loop_rounds 40 ?_))
 try dsimp only [Exit.then, Exit.inBlock, Exit.jump, Exit.noGoto]
 rw [rounds_succ]
 refine Sp fun _ kk => Av F fun A F => ?_
 refine Nl kk (Sx.seq fun K5 hK5 => condT F rfl (wp_skip (hK5 _ _ (Sx.seq fun K6 hK6 => wp_block (Sp fun _ kk => Zv F (d_index (v := L130) F rfl rfl rfl (by kernel_rfl)) fun A F => ?_)))))
 refine Zb F (d_alloc H rfl [iI 0, .nilFunc] zero_208) fun g2 A w F H => ?_
 refine Zs 0 [iI 1, .func (.func 145) #[] #[]] sz_208 F H fun A w F H => ?_
 refine Nl kk (Sx.seq fun K8 hK8 => Sp fun _ kk => ?_)
 iterate 4 (refine Av F ?_; intro A F)
 refine Nl kk (condF F rfl (wp_skip (hK8 _ _ (Sp fun _ kk => Zb F (d_alloc H rfl [iU 0, iU 0, iU 0, iU 0] zero_23) fun g3 A w F H => ?_))))
 refine Nl kk (Sp fun _ kk => Av F fun A F => ?_)
 refine Zx F (Do if_122 F (cx57 H)) ?_
 rintro _ w ⟨g4, c1, hbc1, rfl, H⟩ A F
 iterate 7 (refine Av F ?_; intro A F)
 refine Nl kk (Sp fun _ kk => Zv F (d_sliceG (v := sL g3 0 4 4) (lv := none) (hv := none) (mv := none) F rfl rfl rfl rfl rfl (by kernel_rfl)) fun A F => ?_)
 refine Av F fun A F => ?_
 refine Zx F (d_copyB (i := 0) (cs := L132) (us := L132) (m := 4) (el_65).1 (by kernel_rfl) F H rfl rfl rfl rfl (by decide) (fun j u hu => Sx.box_part (news := L132) ((H.rowBox (i := 0) rfl).box 0 g4 _ rfl).1 rfl j u hu) rfl rfl (Nat.le_of_ble_eq_true rfl) rfl) ?_
 rintro _ w ⟨rfl, H⟩ A F
 have H : Sx.Own w0 w ((true, g3, L132) :: (true, g2, [iI 1, .func (.func 145) #[] #[]]) :: (true, g1, L135) :: bs) (⟨true, sL g4 0 4 c1, 22, 1, 4, L132⟩ :: rs) K := H
 refine Nl kk (Sp fun _ kk => ?_)
 iterate 4 (refine Av F ?_; intro A F)
 refine Zx F (d_callCO (fv := []) (vs := [iU 0, L133]) (cv := []) if_145 F rfl rfl rfl (cx58 H)) ?_
 rintro _ w ⟨rfl, H⟩ A F
 refine Zb F (d_alloc H rfl L135 zero_35) fun g5 A w F H => ?_
 refine Zs 0 L135 sz_35 F H fun A w F H => ?_
 refine Nl kk (Sp fun _ kk => ?_)
 iterate 2 (refine Av F ?_; intro A F)
 refine Zs 0 L138 sz_3 F H fun A w F H => ?_
 refine Nl kk (Sp fun _ kk => Av F fun A F => ?_)
 refine Zs 3 L138 sz_35 F H fun A w F H => ?_
 refine Av F fun A F => ?_
 refine Nl kk (Wr (ret2 F Tryz.results81 (res_row (i := 3) (xs := L138) rw_35 F H rfl rfl rfl rfl) (res_tmp F rfl) ?_))
 exact ⟨_, rfl, rfl, H.pickN 4 1 [] []⟩
set_option maxRecDepth 100000 in
abbrev L136 : Value := .agg #[iI 1, iU 0, iU 0, iU 0, iU 0, iU 0, iU 0, iU 0, iU 0, iU 0, iU 0, iU 0, iW 0, iW 0, bF]
abbrev L139 : List Value := [iI 1, iU 0, iU 0, iU 0, iU 0, iU 0, iU 0, iU 0, iU 0, iU 0, iU 0, iU 0, nS, iI 1, iU 0, iU 0, iU 0, iU 0, iU 0, iU 0, iU 0, iU 0, iU 0, iU 0, iU 0, iW 0, iW 0, bF]
theorem cx60   (H : Sx.Own w0 w (bs) (rs) K) : Cq 138 #[iI 1, iU 0, .agg #[iU 0, iU 0]] w fun x w' => ∃ g3 : Nat, x = .tuple #[pT g3 0, iI 0] ∧ Sx.Own w0 w' ((true, g3, L139) :: bs) (rs) K := by
 refine En Tryz.func138 Tryz.ntmps138 fun A F => ?_
 refine Sp fun _ kk => Zb F (d_box F H rfl rfl [iU 0, iU 0] rfl) fun g1 A w F H => ?_
 iterate 2 (refine Av F ?_; intro A F)
 refine Nl kk (Sp fun _ kk => ?_)
 iterate 2 (refine Av F ?_; intro A F)
 refine Zx F (Do if_81 F (cx59 H)) ?_
 rintro _ w ⟨rfl, H⟩ A F
 iterate 3 (refine Av F ?_; intro A F)
 refine Zb F (d_alloc H rfl L135 zero_35) fun g2 A w F H => ?_
 refine Zs 0 L138 sz_35 F H fun A w F H => ?_
 refine Av F fun A F => ?_
 refine Nl kk (Sx.seq fun K3 hK3 => wp_block (Sp fun _ kk => ?_))
 iterate 3 (refine Av F ?_; intro A F)
 refine Nl kk (condF F rfl (Sx.seq fun K5 hK5 => ?_))
 have F := F.tq [(0, iI 1), (1, iU 0), (5, pT g1 0), (6, nP), (7, iI 0), (8, pT g2 0), (9, iI 0)] rfl
 refine Dn F [some (.agg #[iU 0, iU 0]), some (iI 1), some (L126), some (iI (-1)), some (bF), some (bF)] (fun L A w => Sx.Own w0 w ((true, g2, L138) :: (true, g1, [iU 0, iU 0]) :: bs) (rs) K) (H.drew.padG [] [] rfl rfl) ?_ ?_
 ·refine ⟨?_, ?_, ?_, ?_, ?_, ?_, trivial⟩
  ·exact SV (fun _ _ _ F H => Lr 1 [iU 0, iU 0] rw_26 F H)
  ·exact Sa
  ·intro L A w up hun hd F H
   refine step_on rfl (Dc (v := L126) if_17 F H (Calls.val (v := L95) (glimit1_c _) rfl (by kernel_rfl))) ?_
   rintro xv w' ⟨hx, H⟩
   exact ⟨Cs hx, H⟩
  ·intro L A w up hun hd F H
   refine step_on rfl (Dc (v := iI (-1)) if_16 F H (Calls.val (v := iI (Wd.cmp 0#128 9223372036854775808#128)) (wcmp_c 0#128 9223372036854775808#128 _) rfl (by kernel_rfl))) ?_
   rintro xv w' ⟨hx, H⟩
   exact ⟨Cs hx, H⟩
  ·exact Sa
  ·exact Sa
 ·intro L A w hL F H
  have H := H.pickN 2 0 [0, 1] []
  have F := F.tq [(0, iI 1), (1, iU 0), (5, pT g1 0), (6, nP), (7, iI 0), (8, pT g2 0), (9, iI 0), (20, bF)] rfl
  refine hK5 _ _ (condF F rfl (wp_skip (hK3 _ _ (Sp fun _ kk => ?_))))
  iterate 2 (refine Av F ?_; intro A F)
  refine Zw F (Dc (v := L137) if_6 F H (Calls.val (v := .tuple #[.agg #[iI 1, uN (Mx.jump 0#64 (Wd.lo 0#128)), iU 0, iU 0, iU 0, iU 0, uN (Wd.hi 0#128), uN (Wd.lo 0#128), uN (Wd.hi 0#128), uN (Wd.lo 0#128), uN (Wd.hi 0#128), uN (Wd.lo 0#128), iW 0, iW 0, bF], iI 0]) (gjmp1_ok 0#64 0#128 _) rfl (by kernel_rfl))) fun A w F H => ?_
  iterate 3 (refine Av F ?_; intro A F)
  refine Zs 0 L138 sz_35 F H fun A w F H => ?_
  refine Av F fun A F => ?_
  refine Nl kk (Sp fun _ kk => ?_)
  iterate 4 (refine Av F ?_; intro A F)
  refine Zv F (d_build (qs := #[(0, iI 1), (1, iU 0), (2, .agg #[iU 0, iU 0]), (5, L136)]) (v := .agg #[iI 1, iU 0, iU 0, iU 0, iU 0, iU 0, iU 0, iU 0, iU 0, iU 0, iU 0, iU 0, nS, iI 1, iU 0, iU 0, iU 0, iU 0, iU 0, iU 0, iU 0, iU 0, iU 0, iU 0, iU 0, iW 0, iW 0, bF]) F rfl rfl (by kernel_rfl)) fun A F => ?_
  refine Zb F (d_box F H rfl rfl L139 rfl) fun g3 A w F H => ?_
  iterate 3 (refine Av F ?_; intro A F)
  refine Nl kk (Wr (ret2 F Tryz.results138 (res_tmp F rfl) (res_tmp F rfl) ?_))
  exact ⟨_, rfl, g3, rfl, H.pickN 3 0 [0] []⟩
set_option maxRecDepth 100000 in
abbrev L140 (x0 : Nat) : List Value := [pT x0 0, iU 0, iU 9223372036854775808]
theorem cx61   (H : Sx.Own w0 w (bs) (rs) K) : Cq 98 #[iI 1, iU 0, L127] w fun x w' => ∃ g4 g3 : Nat, x = .tuple #[pT g4 0, iI 0] ∧ Sx.Own w0 w' ((true, g4, (L140 g3)) :: (true, g3, L139) :: bs) (rs) K := by
 refine En Tryz.func98 Tryz.ntmps98 fun A F => ?_
 refine Sp fun _ kk => Zb F (d_box F H rfl rfl L128 rfl) fun g1 A w F H => ?_
 iterate 2 (refine Av F ?_; intro A F)
 refine Nl kk (Sp fun _ kk => Av F fun A F => ?_)
 refine Zw F (Dc (v := L126) if_17 F H (Calls.val (v := L95) (glimit1_c _) rfl (by kernel_rfl))) fun A w F H => ?_
 refine Zb F (d_alloc H rfl [iU 0, iU 0] zero_26) fun g2 A w F H => ?_
 refine Zs 0 [iU 0, iU 9223372036854775808] sz_26 F H fun A w F H => ?_
 refine Nl kk (Sx.seq fun K3 hK3 => wp_block (Sp fun _ kk => Av F fun A F => ?_))
 refine Zv F (d_build (qs := #[]) (v := .agg #[iU 0, iU 0]) F rfl rfl (by kernel_rfl)) fun A F => ?_
 refine Zn bF F fun A F => ?_
 refine Av F fun A F => ?_
 refine Nl kk (condF F rfl (Sp fun _ kk => Av F fun A F => ?_))
 refine Zx F (Do if_119 F (cx51 H)) ?_
 rintro _ w ⟨rfl, H⟩ A F
 refine Zv F (d_un (v := bF) F rfl rfl rfl) fun A F => ?_
 refine Av F fun A F => ?_
 refine Nl kk (condF F rfl (Sp fun _ kk => ?_))
 iterate 3 (refine Av F ?_; intro A F)
 refine Zw F (Dc (v := iI 0) if_16 F H (Calls.val (v := iI (Wd.cmp 9223372036854775808#128 9223372036854775808#128)) (wcmp_c 9223372036854775808#128 9223372036854775808#128 _) rfl (by kernel_rfl))) fun A w F H => ?_
 iterate 2 (refine Av F ?_; intro A F)
 refine Nl kk (condF F rfl (wp_skip (hK3 _ _ (Sp fun _ kk => ?_))))
 iterate 4 (refine Av F ?_; intro A F)
 refine Zx F (Do if_138 F (cx60 H)) ?_
 rintro _ w ⟨g3, rfl, H⟩ A F
 iterate 5 (refine Av F ?_; intro A F)
 refine Nl kk (Sx.seq fun K8 hK8 => Sp fun _ kk => ?_)
 iterate 2 (refine Av F ?_; intro A F)
 refine Nl kk (condF F rfl (wp_skip (hK8 _ _ (Sp fun _ kk => ?_))))
 iterate 3 (refine Av F ?_; intro A F)
 refine Zv F (d_build (qs := #[(0, pT g3 0), (1, L126)]) (v := .agg #[pT g3 0, iU 0, iU 9223372036854775808]) F rfl rfl (by kernel_rfl)) fun A F => ?_
 refine Zb F (d_box F H rfl rfl (L140 g3) rfl) fun g4 A w F H => ?_
 iterate 2 (refine Av F ?_; intro A F)
 refine Nl kk (Wr (ret2 F Tryz.results98 (res_tmp F rfl) (res_tmp F rfl) ?_))
 exact ⟨_, rfl, g4, g3, rfl, H.pickN 4 0 [0, 1] []⟩
set_option maxRecDepth 100000 in
theorem cx62 {g1 g2 g3 : Nat}  (H : Sx.Own w0 w ((true, g1, [nS, iI 0]) :: (true, g2, (L140 g3)) :: (true, g3, L139) :: bs) (rs) K) : Cq 134 #[pT g1 0, iI 0, pT g2 0] w fun x w' => ∃ g5 c1 : Nat, 1 ≤ c1 ∧ x = iI 0 ∧ Sx.Own w0 w' ((true, g1, [sL g5 0 1 c1, iI 1]) :: (true, g2, (L140 g3)) :: (true, g3, L139) :: bs) (⟨true, sL g5 0 1 c1, 217, 2, 1, [iI 0, pT g2 0]⟩ :: rs) K := by
 refine En Tryz.func134 Tryz.ntmps134 fun A F => ?_
 refine Sp fun _ kk => Av F fun A F => ?_
 refine Nl kk (Sx.seq fun K2 hK2 => wp_block (Sp fun _ kk => ?_))
 iterate 4 (refine Av F ?_; intro A F)
 refine Zv F (d_lenS el_213 F rfl rfl) fun A F => ?_
 iterate 2 (refine Av F ?_; intro A F)
 refine Nl kk (condF F rfl (Sp fun _ kk => ?_))
 iterate 11 (refine Av F ?_; intro A F)
 refine Nl kk (condF F rfl (wp_skip (hK2 _ _ (Sp fun _ kk => ?_))))
 iterate 7 (refine Av F ?_; intro A F)
 refine Zv F (d_build (qs := #[(0, iI 0), (1, pT g2 0)]) (v := .agg #[iI 0, pT g2 0]) F rfl rfl (by kernel_rfl)) fun A F => ?_
 refine Zg (mk := fun g => sL g 0 1 1) F (d_lit (qs := #[(0, .agg #[iI 0, pT g2 0])]) (cs := #[iI 0, pT g2 0]) (E := 217) F H rfl rfl (fun _ => by kernel_rfl)) fun g4 A w F H => ?_
 have H := Sx.Own.nilR H 217 2
 refine Zr (mk := fun v => v) F (d_append (i := 0) (j := 0) el_213 F H rfl rfl rfl rfl rfl rfl rfl rfl (by decide) (by decide)) fun v1 A w F H => ?_
 obtain ⟨g5, c1, rfl, hbc1, hdc1⟩ := H.open (i := 0) rfl (by decide)
 iterate 2 (refine Av F ?_; intro A F)
 refine Zs 1 [sL g5 0 1 c1, iI 0] sz_213 F H fun A w F H => ?_
 refine Nl kk (Sp fun _ kk => ?_)
 iterate 2 (refine Av F ?_; intro A F)
 refine Zn (iI 1) F fun A F => ?_
 iterate 2 (refine Av F ?_; intro A F)
 refine Zs 1 [sL g5 0 1 c1, iI 1] sz_3 F H fun A w F H => ?_
 refine Nl kk (Sp fun _ kk => Av F fun A F => ?_)
 refine Nl kk (Wr (ret1 F Tryz.results134 (res_tmp F rfl) ?_))
 exact ⟨_, rfl, g5, c1, (by omega), rfl, H.pickN 4 1 [1, 2, 3] [0]⟩
set_option maxRecDepth 100000 in
abbrev L141 : List Value := [pT 0 0, iU 0, iU 9223372036854775808]
theorem cx63 {g1 g2 : Nat}  (H : Sx.Own w0 w ((true, g1, [pT g2 0, iI 1, iU 0]) :: (true, g2, [nS, iI 0]) :: bs) (rs) K) : Cq 94 #[pT g1 0, iI 0, L127] w fun x w' => ∃ g9 c1 g5 g6 : Nat, 1 ≤ c1 ∧ x = iI 0 ∧ Sx.Own w0 w' ((true, g1, [pT g2 0, iI 1, iU 0]) :: (true, g2, [sL g9 0 1 c1, iI 1]) :: (true, g5, (L140 g6)) :: (true, g6, L139) :: bs) (⟨true, sL g9 0 1 c1, 217, 2, 1, [iI 0, pT g5 0]⟩ :: rs) K := by
 refine En Tryz.func94 Tryz.ntmps94 fun A F => ?_
 refine Sp fun _ kk => Zb F (d_box F H rfl rfl L128 rfl) fun g3 A w F H => ?_
 refine Av F fun A F => ?_
 refine Nl kk (Sp fun _ kk => ?_)
 iterate 4 (refine Av F ?_; intro A F)
 refine Zw F (Dc (v := L126) if_17 F H (Calls.val (v := L95) (glimit1_c _) rfl (by kernel_rfl))) fun A w F H => ?_
 refine Zb F (d_alloc H rfl [iU 0, iU 0] zero_26) fun g4 A w F H => ?_
 refine Zs 0 [iU 0, iU 9223372036854775808] sz_26 F H fun A w F H => ?_
 refine Nl kk (Sx.seq fun K3 hK3 => wp_block (Sp fun _ kk => Av F fun A F => ?_))
 refine Zx F (Do if_119 F (cx51 H)) ?_
 rintro _ w ⟨rfl, H⟩ A F
 refine Zv F (d_un (v := bF) F rfl rfl rfl) fun A F => ?_
 iterate 4 (refine Av F ?_; intro A F)
 refine Zw F (Dc (v := iI 0) if_16 F H (Calls.val (v := iI (Wd.cmp 9223372036854775808#128 9223372036854775808#128)) (wcmp_c 9223372036854775808#128 9223372036854775808#128 _) rfl (by kernel_rfl))) fun A w F H => ?_
 iterate 3 (refine Av F ?_; intro A F)
 refine Nl kk (condF F rfl (Sp fun _ kk => Av F fun A F => ?_))
 have H := H.pickN 4 0 [2, 3, 0, 1] []
 refine Zx F (Do if_56 F (cx53 H)) ?_
 rintro _ w ⟨rfl, H⟩ A F
 refine Zv F (d_mkFunc (fv := []) (cv := [pT g3 0]) F rfl rfl rfl) fun A F => ?_
 have H := H.pickN 4 0 [3, 0, 1, 2] []
 refine Zx F (Do if_131 F (cx55 H)) ?_
 rintro _ w ⟨rfl, H⟩ A F
 refine Av F fun A F => ?_
 refine Nl kk (condF F rfl (wp_skip (hK3 _ _ (Sx.seq fun K6 hK6 => ?_))))
 have F := F.tq [(0, pT g1 0), (1, iI 0), (5, pT g3 0), (6, iI 0)] rfl
 refine Dn F [some (pT g1 0), some (pT g1 0), some (pT g1 1), some (iI 1), some (pT g1 0), some (pT g1 0), some (pT g1 2), some (iU 0), some (L127), none, none, none, some (iI 0), none, some (iI 0)] (fun L A w => ∃ g5 : Nat, ∃ g6 : Nat, (L 9 = true → A.eval (.tmp 41) = .tuple #[pT g5 0, iI 0]) ∧ (L 10 = true → A.eval (.tmp 31) = .tuple #[pT g5 0, iI 0]) ∧ (L 11 = true → A.eval (.tmp 42) = pT g5 0) ∧ (L 13 = true → A.eval (.tmp 8) = pT g5 0) ∧ Sx.Own w0 w ((L 9, g5, (L140 g6)) :: (L 9, g6, L139) :: (true, g3, L128) :: (true, g1, [pT g2 0, iI 1, iU 0]) :: (true, g2, [nS, iI 0]) :: (true, g4, [iU 0, iU 9223372036854775808]) :: bs) (rs) K) ⟨0, 0, (fun h => by cases h), (fun h => by cases h), (fun h => by cases h), (fun h => by cases h), H.drew.padG [(false, 0, L141), (false, 0, L139)] [] rfl rfl⟩ ?_ ?_
 ·refine ⟨?_, ?_, ?_, ?_, ?_, ?_, ?_, ?_, ?_, ?_, ?_, ?_, ?_, ?_, ?_, trivial⟩
  ·intro L A w up hun hd F ⟨g5, g6, p9, p10, p11, p13, H⟩
   have f1 : L 1 = false := up 1 0 rfl hun
   have f2 : L 2 = false := up 2 1 rfl f1
   have f3 : L 3 = false := up 3 2 rfl f2
   have f9 : L 9 = false := up 9 3 rfl f3
   have f10 : L 10 = false := up 10 9 rfl f9
   have f11 : L 11 = false := up 11 10 rfl f10
   have f13 : L 13 = false := up 13 0 rfl hun
   have G := H; rw [f9] at G
   refine step_on rfl (d_move F (Or.inl rfl) rfl) ?_
   rintro xv w' ⟨hx, rfl⟩
   exact ⟨Cs hx, ⟨g5, g6, Nf f9, Nf f10, Nf f11, Nf f13, H⟩⟩
  ·intro L A w up hun hd F ⟨g5, g6, p9, p10, p11, p13, H⟩
   have f2 : L 2 = false := up 2 1 rfl hun
   have f3 : L 3 = false := up 3 2 rfl f2
   have f9 : L 9 = false := up 9 3 rfl f3
   have f10 : L 10 = false := up 10 9 rfl f9
   have f11 : L 11 = false := up 11 10 rfl f10
   have f13 : L 13 = false := up 13 1 rfl hun
   have G := H; rw [f9] at G
   refine step_on rfl (d_nil F rfl rfl) ?_
   rintro xv w' ⟨hx, rfl⟩
   exact ⟨Cs hx, ⟨g5, g6, Nf f9, Nf f10, Nf f11, Nf f13, H⟩⟩
  ·intro L A w up hun hd F ⟨g5, g6, p9, p10, p11, p13, H⟩
   have f3 : L 3 = false := up 3 2 rfl hun
   have f9 : L 9 = false := up 9 3 rfl f3
   have f10 : L 10 = false := up 10 9 rfl f9
   have f11 : L 11 = false := up 11 10 rfl f10
   have f13 : L 13 = false := up 13 2 rfl hun
   have G := H; rw [f9] at G
   refine step_on rfl (Fd F (fa_160_1.default.h _ _ _)) ?_
   rintro xv w' ⟨hx, rfl⟩
   exact ⟨Cs hx, ⟨g5, g6, Nf f9, Nf f10, Nf f11, Nf f13, H⟩⟩
  ·intro L A w up hun hd F ⟨g5, g6, p9, p10, p11, p13, H⟩
   have f9 : L 9 = false := up 9 3 rfl hun
   have f10 : L 10 = false := up 10 9 rfl f9
   have f11 : L 11 = false := up 11 10 rfl f10
   have f13 : L 13 = false := up 13 3 rfl hun
   have G := H; rw [f9] at G
   refine step_on rfl (Ld 3 one_3 F G) ?_
   rintro xv w' ⟨hx, rfl⟩
   exact ⟨Cs hx, ⟨g5, g6, Nf f9, Nf f10, Nf f11, Nf f13, H⟩⟩
  ·intro L A w up hun hd F ⟨g5, g6, p9, p10, p11, p13, H⟩
   have f5 : L 5 = false := up 5 4 rfl hun
   have f6 : L 6 = false := up 6 5 rfl f5
   have f7 : L 7 = false := up 7 6 rfl f6
   have f9 : L 9 = false := up 9 7 rfl f7
   have f10 : L 10 = false := up 10 9 rfl f9
   have f11 : L 11 = false := up 11 10 rfl f10
   have f13 : L 13 = false := up 13 4 rfl hun
   have G := H; rw [f9] at G
   refine step_on rfl (d_move F (Or.inl rfl) rfl) ?_
   rintro xv w' ⟨hx, rfl⟩
   exact ⟨Cs hx, ⟨g5, g6, Nf f9, Nf f10, Nf f11, Nf f13, H⟩⟩
  ·intro L A w up hun hd F ⟨g5, g6, p9, p10, p11, p13, H⟩
   have f6 : L 6 = false := up 6 5 rfl hun
   have f7 : L 7 = false := up 7 6 rfl f6
   have f9 : L 9 = false := up 9 7 rfl f7
   have f10 : L 10 = false := up 10 9 rfl f9
   have f11 : L 11 = false := up 11 10 rfl f10
   have f13 : L 13 = false := up 13 5 rfl hun
   have G := H; rw [f9] at G
   refine step_on rfl (d_nil F rfl rfl) ?_
   rintro xv w' ⟨hx, rfl⟩
   exact ⟨Cs hx, ⟨g5, g6, Nf f9, Nf f10, Nf f11, Nf f13, H⟩⟩
  ·intro L A w up hun hd F ⟨g5, g6, p9, p10, p11, p13, H⟩
   have f7 : L 7 = false := up 7 6 rfl hun
   have f9 : L 9 = false := up 9 7 rfl f7
   have f10 : L 10 = false := up 10 9 rfl f9
   have f11 : L 11 = false := up 11 10 rfl f10
   have f13 : L 13 = false := up 13 6 rfl hun
   have G := H; rw [f9] at G
   refine step_on rfl (Fd F (fa_160_2.default.h _ _ _)) ?_
   rintro xv w' ⟨hx, rfl⟩
   exact ⟨Cs hx, ⟨g5, g6, Nf f9, Nf f10, Nf f11, Nf f13, H⟩⟩
  ·intro L A w up hun hd F ⟨g5, g6, p9, p10, p11, p13, H⟩
   have f9 : L 9 = false := up 9 7 rfl hun
   have f10 : L 10 = false := up 10 9 rfl f9
   have f11 : L 11 = false := up 11 10 rfl f10
   have f13 : L 13 = false := up 13 7 rfl hun
   have G := H; rw [f9] at G
   refine step_on rfl (Ld 3 one_22 F G) ?_
   rintro xv w' ⟨hx, rfl⟩
   exact ⟨Cs hx, ⟨g5, g6, Nf f9, Nf f10, Nf f11, Nf f13, H⟩⟩
  ·intro L A w up hun hd F ⟨g5, g6, p9, p10, p11, p13, H⟩
   have f9 : L 9 = false := up 9 8 rfl hun
   have f10 : L 10 = false := up 10 9 rfl f9
   have f11 : L 11 = false := up 11 10 rfl f10
   have f13 : L 13 = false := up 13 8 rfl hun
   have G := H; rw [f9] at G
   refine step_on rfl (Lr 2 L128 rw_79 F G) ?_
   rintro xv w' ⟨hx, rfl⟩
   exact ⟨Cs hx, ⟨g5, g6, Nf f9, Nf f10, Nf f11, Nf f13, H⟩⟩
  ·intro L A w up hun hd F ⟨g5, g6, p9, p10, p11, p13, H⟩
   have f9 : L 9 = false := hun
   have f10 : L 10 = false := up 10 9 rfl hun
   have f11 : L 11 = false := up 11 10 rfl f10
   have f13 : L 13 = false := up 13 9 rfl hun
   rw [f9] at H
   have H : Sx.Own w0 w ((false, g5, (L140 g6)) :: (false, g6, L139) :: (true, g3, L128) :: (true, g1, [pT g2 0, iI 1, iU 0]) :: (true, g2, [nS, iI 0]) :: (true, g4, [iU 0, iU 9223372036854775808]) :: bs) (rs) K := H
   refine step_on rfl (Do if_98 F (cx61 H)) ?_
   rintro xv w' ⟨g7, g8, hx, H⟩
   have H := H.pickN 8 0 [0, 1, 4, 5, 6, 7] []
   exact ⟨Cn, ⟨g7, g8, (fun _ => (Sx.put_same F (by decide) _).trans hx), Nf f10, Nf f11, Nf f13, H⟩⟩
  ·intro L A w up hun hd F ⟨g5, g6, p9, p10, p11, p13, H⟩
   have t9 : L 9 = true := hd 9 rfl
   have f10 : L 10 = false := hun
   have f11 : L 11 = false := up 11 10 rfl hun
   have f13 : L 13 = false := up 13 10 rfl hun
   have G := H; rw [t9] at G
   have F := Fr.add F (p9 t9)
   refine step_on rfl (d_move F (Or.inl rfl) rfl) ?_
   rintro xv w' ⟨hx, rfl⟩
   exact ⟨Cn, ⟨g5, g6, Pk p9, (fun _ => (Sx.put_same F (by decide) _).trans hx), Nf f11, Nf f13, H⟩⟩
  ·intro L A w up hun hd F ⟨g5, g6, p9, p10, p11, p13, H⟩
   have t9 : L 9 = true := by
    cases hb : L 9 with
    | true => rfl
    | false =>
     have hb10 := up 10 9 rfl hb
     rw [hd 10 rfl] at hb10; cases hb10
   have t10 : L 10 = true := hd 10 rfl
   have f11 : L 11 = false := hun
   have f13 : L 13 = false := up 13 11 rfl hun
   have G := H; rw [t9] at G
   have F := Fr.add F (p9 t9)
   have F := Fr.add F (p10 t10)
   refine step_on rfl (d_extract (v := pT g5 0) F rfl rfl rfl) ?_
   rintro xv w' ⟨hx, rfl⟩
   exact ⟨Cn, ⟨g5, g6, Pk p9, Pk p10, (fun _ => (Sx.put_same F (by decide) _).trans hx), Nf f13, H⟩⟩
  ·intro L A w up hun hd F ⟨g5, g6, p9, p10, p11, p13, H⟩
   have t9 : L 9 = true := by
    cases hb : L 9 with
    | true => rfl
    | false =>
     have hb10 := up 10 9 rfl hb
     rw [hd 10 rfl] at hb10; cases hb10
   have t10 : L 10 = true := hd 10 rfl
   have G := H; rw [t9] at G
   have F := Fr.add F (p9 t9)
   have F := Fr.add F (p10 t10)
   refine step_on rfl (d_extract (v := iI 0) F rfl rfl rfl) ?_
   rintro xv w' ⟨hx, rfl⟩
   exact ⟨Cs hx, ⟨g5, g6, Pk p9, Pk p10, Pk p11, Pk p13, H⟩⟩
  ·intro L A w up hun hd F ⟨g5, g6, p9, p10, p11, p13, H⟩
   have t9 : L 9 = true := hd 9 rfl
   have t10 : L 10 = true := hd 10 rfl
   have t11 : L 11 = true := hd 11 rfl
   have f13 : L 13 = false := hun
   have G := H; rw [t9] at G
   have F := Fr.add F (p9 t9)
   have F := Fr.add F (p10 t10)
   have F := Fr.add F (p11 t11)
   refine step_on rfl (d_move F (Or.inr rfl) rfl) ?_
   rintro xv w' ⟨hx, rfl⟩
   exact ⟨Cn, ⟨g5, g6, Pk p9, Pk p10, Pk p11, (fun _ => (Sx.put_same F (by decide) _).trans hx), H⟩⟩
  ·intro L A w up hun hd F ⟨g5, g6, p9, p10, p11, p13, H⟩
   have t9 : L 9 = true := hd 9 rfl
   have t10 : L 10 = true := hd 10 rfl
   have t11 : L 11 = true := hd 11 rfl
   have t13 : L 13 = true := hd 13 rfl
   have G := H; rw [t9] at G
   have F := Fr.add F (p9 t9)
   have F := Fr.add F (p10 t10)
   have F := Fr.add F (p11 t11)
   have F := Fr.add F (p13 t13)
   refine step_on rfl (d_move F (Or.inr rfl) rfl) ?_
   rintro xv w' ⟨hx, rfl⟩
   exact ⟨Cs hx, ⟨g5, g6, Pk p9, Pk p10, Pk p11, Pk p13, H⟩⟩
 ·intro L A w hL F ⟨g5, g6, p9, p10, p11, p13, H⟩
  have t9 : L 9 = true := hL 9 rfl
  have t10 : L 10 = true := hL 10 rfl
  have t11 : L 11 = true := hL 11 rfl
  have t13 : L 13 = true := hL 13 rfl
  rw [t9] at H
  have F := Fr.add F (p9 t9)
  have F := Fr.add F (p10 t10)
  have F := Fr.add F (p11 t11)
  have F := Fr.add F (p13 t13)
  have H := H.pickN 6 0 [0, 1, 2, 3, 4, 5] []
  have F := F.tq [(0, pT g1 0), (1, iI 0), (6, iI 0), (8, pT g5 0), (9, iI 0)] rfl
  refine hK6 _ _ (Sx.seq fun K7 hK7 => Sp fun _ kk => ?_)
  iterate 2 (refine Av F ?_; intro A F)
  refine Nl kk (condF F rfl (wp_skip (hK7 _ _ (Sp fun _ kk => ?_))))
  iterate 6 (refine Av F ?_; intro A F)
  have H := H.pickN 6 0 [4, 0, 1, 2, 3, 5] []
  refine Zx F (Do if_134 F (cx62 H)) ?_
  rintro _ w ⟨g9, c1, hbc1, rfl, H⟩ A F
  refine Av F fun A F => ?_
  refine Nl kk (Wr (ret1 F Tryz.results94 (res_tmp F rfl) ?_))
  exact ⟨_, rfl, g9, c1, g5, g6, (by omega), rfl, H.pickN 6 1 [4, 0, 1, 2] [0]⟩
set_option maxRecDepth 100000 in
theorem cx64   (H : Sx.Own w0 w (bs) (rs) K) : Cq 71 #[iI 1, iU 0] w fun x w' => ∃ g1 g2 g3 c1 g4 g5 : Nat, 1 ≤ c1 ∧ x = .tuple #[pT g1 0, iI 0] ∧ Sx.Own w0 w' ((true, g1, [pT g2 0, iI 1, iU 0]) :: (true, g2, [sL g3 0 1 c1, iI 1]) :: (true, g4, (L140 g5)) :: (true, g5, L139) :: bs) (⟨true, sL g3 0 1 c1, 217, 2, 1, [iI 0, pT g4 0]⟩ :: rs) K := by
 refine En Tryz.func71 Tryz.ntmps71 fun A F => ?_
 refine Sp fun _ kk => ?_
 iterate 2 (refine Av F ?_; intro A F)
 refine Nl kk (Sp fun _ kk => ?_)
 iterate 2 (refine Av F ?_; intro A F)
 refine Zx F (Do if_93 F (cx50 H)) ?_
 rintro _ w ⟨g1, g2, rfl, H⟩ A F
 iterate 5 (refine Av F ?_; intro A F)
 refine Nl kk (Sx.seq fun K3 hK3 => Sp fun _ kk => ?_)
 iterate 2 (refine Av F ?_; intro A F)
 refine Nl kk (condF F rfl (wp_skip (hK3 _ _ (Sp fun _ kk => ?_))))
 iterate 3 (refine Av F ?_; intro A F)
 refine Zw F (Dc (v := L126) if_17 F H (Calls.val (v := L95) (glimit1_c _) rfl (by kernel_rfl))) fun A w F H => ?_
 refine Zv F (d_build (qs := #[(1, L126)]) (v := L127) F rfl rfl (by kernel_rfl)) fun A F => ?_
 refine Zx F (Do if_94 F (cx63 H)) ?_
 rintro _ w ⟨g3, c1, g4, g5, hbc1, rfl, H⟩ A F
 iterate 2 (refine Av F ?_; intro A F)
 refine Nl kk (Wr (ret2 F Tryz.results71 (res_tmp F rfl) (res_tmp F rfl) ?_))
 exact ⟨_, rfl, g1, g2, g3, c1, g4, g5, (by omega), rfl, H.pickN 4 1 [0, 1, 2, 3] [0]⟩
set_option maxRecDepth 100000 in
theorem cx65 {g1 g2 g3 g4 c1 g5 g6 : Nat} (hbc1 : 1 ≤ c1) (H : Sx.Own w0 w ((true, g1, [nP]) :: (true, g2, [pT g3 0, iI 1, iU 0]) :: (true, g3, [sL g4 0 1 c1, iI 1]) :: (true, g5, (L140 g6)) :: (true, g6, L139) :: bs) (⟨true, sL g4 0 1 c1, 217, 2, 1, [iI 0, pT g5 0]⟩ :: rs) K) : Cq 70 #[pT g1 0, pT g2 0, iI 0] w fun x w' => x = .agg #[iI 0, iU 0, nS, nS, iI 0] ∧ Sx.Own w0 w' ((true, g1, [pT g2 0]) :: (true, g2, [pT g3 0, iI 1, iU 0]) :: (true, g3, [sL g4 0 1 c1, iI 1]) :: (true, g5, (L140 g6)) :: (true, g6, L139) :: bs) (⟨true, sL g4 0 1 c1, 217, 2, 1, [iI 0, pT g5 0]⟩ :: rs) K := by
 refine En Tryz.func70 Tryz.ntmps70 fun A F => ?_
 refine Sp fun _ kk => Zb F (d_alloc H rfl [iI 0, iU 0, nS, nS, iI 0] zero_68) fun g7 A w F H => ?_
 refine Nl kk (Sx.seq fun K2 hK2 => Sp fun _ kk => ?_)
 iterate 2 (refine Av F ?_; intro A F)
 refine Nl kk (condT F rfl (Sx.plain ?_))
 iterate 4 (refine Av F ?_; intro A F)
 refine Zs 1 [pT g2 0] sz_114 F H fun A w F H => ?_
 refine Sx.nil (hK2 _ _ (Sp fun _ kk => Av F fun A F => ?_))
 refine Zv F (d_build (qs := #[(4, iI 0)]) (v := .agg #[iI 0, iU 0, nS, nS, iI 0]) F rfl rfl (by kernel_rfl)) fun A F => ?_
 refine Zs 0 [iI 0, iU 0, nS, nS, iI 0] sz_68 F H fun A w F H => ?_
 refine Nl kk (Wr (ret1 F Tryz.results70 (res_row (i := 0) (xs := [iI 0, iU 0, nS, nS, iI 0]) rw_68 F H rfl rfl rfl rfl) ?_))
 exact ⟨_, rfl, rfl, H.pickN 6 1 [1, 2, 3, 4, 5] [0]⟩
end
section
open Sx
variable {w0 w : World} {bs : List Sx.Bx} {rs : List Sx.Rx} {K : Nat → Option Obj}
set_option maxRecDepth 100000 in
theorem cx66 {g1 : Nat}  (H : Sx.Own w0 w ((true, g1, [nP]) :: bs) (rs) K) : Cq 43 #[pT g1 0, L105] w fun x w' => ∃ g4 g5 g6 c1 g7 g8 : Nat, 1 ≤ c1 ∧ x = .agg #[iI 0, iU 0, nS, nS, iI 0] ∧ Sx.Own w0 w' ((true, g1, [pT g4 0]) :: (true, g4, [pT g5 0, iI 1, iU 0]) :: (true, g5, [sL g6 0 1 c1, iI 1]) :: (true, g7, (L140 g8)) :: (true, g8, L139) :: bs) (⟨true, sL g6 0 1 c1, 217, 2, 1, [iI 0, pT g7 0]⟩ :: rs) K := by
 refine En Tryz.func43 Tryz.ntmps43 fun A F => ?_
 refine Sp fun _ kk => Zb F (d_box F H rfl rfl L106 rfl) fun g2 A w F H => ?_
 refine Zb F (d_alloc H rfl [iI 0, iU 0, nS, nS, iI 0] zero_68) fun g3 A w F H => ?_
 refine Nl kk (Sp fun _ kk => ?_)
 iterate 5 (refine Av F ?_; intro A F)
 refine Zx F (Do if_71 F (cx64 H)) ?_
 rintro _ w ⟨g4, g5, g6, c1, g7, g8, hbc1, rfl, H⟩ A F
 iterate 2 (refine Av F ?_; intro A F)
 have H := H.pickN 7 1 [6, 0, 1, 2, 3, 4, 5] [0]
 refine Zx F (Do if_70 F (cx65 (by omega) H)) ?_
 rintro _ w ⟨rfl, H⟩ A F
 refine Zs 5 [iI 0, iU 0, nS, nS, iI 0] sz_68 F H fun A w F H => ?_
 refine Nl kk (Wr (ret1 F Tryz.results43 (res_row (i := 5) (xs := [iI 0, iU 0, nS, nS, iI 0]) rw_68 F H rfl rfl rfl rfl) ?_))
 exact ⟨_, rfl, g4, g5, g6, c1, g7, g8, (by omega), rfl, H.pickN 7 1 [0, 1, 2, 3, 4] [0]⟩
set_option maxRecDepth 100000 in
theorem cx67 {g1 : Nat}  (H : Sx.Own w0 w ((true, g1, [nP]) :: bs) (rs) K) : Cq 19 #[pT g1 0, L105] w fun x w' => ∃ g4 g5 g6 c1 g7 g8 : Nat, 1 ≤ c1 ∧ x = .agg #[iI 0, iU 0, nS, nS, iI 0] ∧ Sx.Own w0 w' ((true, g1, [pT g4 0]) :: (true, g4, [pT g5 0, iI 1, iU 0]) :: (true, g5, [sL g6 0 1 c1, iI 1]) :: (true, g7, (L140 g8)) :: (true, g8, L139) :: bs) (⟨true, sL g6 0 1 c1, 217, 2, 1, [iI 0, pT g7 0]⟩ :: rs) K := by
 refine En Tryz.func19 Tryz.ntmps19 fun A F => ?_
 refine Sp fun _ kk => Zb F (d_box F H rfl rfl L106 rfl) fun g2 A w F H => ?_
 refine Zb F (d_alloc H rfl [iI 0, iU 0, nS, nS, iI 0] zero_68) fun g3 A w F H => ?_
 refine Nl kk (Sp fun _ kk => Zx F (d_makeMap F H rfl) ?_)
 rintro _ w ⟨mr, rfl, hmK, H⟩ A F
 have hmo : Tb.MapIs (.map #[] 0) [] := ⟨_, _, rfl, rfl⟩
 refine Zy F (d_mapIns (kt := 3) (et := 117) (by kernel_rfl) (by kernel_rfl) F H rfl rfl rfl rfl (if_pos rfl) hmo rfl) ?_
 rintro _ w ⟨mo1, hmo, H⟩ A F
 rw [Sx.upd_upd] at H
 have hmo : Tb.MapIs mo1 [(0, .func (.func 43) #[] #[])] := hmo
 refine Zy F (d_mapIns (kt := 3) (et := 117) (by kernel_rfl) (by kernel_rfl) F H rfl rfl rfl rfl (if_pos rfl) hmo rfl) ?_
 rintro _ w ⟨mo2, hmo, H⟩ A F
 rw [Sx.upd_upd] at H
 have hmo : Tb.MapIs mo2 [(0, .func (.func 43) #[] #[]), (1, .func (.func 44) #[] #[])] := hmo
 refine Zy F (d_mapIns (kt := 3) (et := 117) (by kernel_rfl) (by kernel_rfl) F H rfl rfl rfl rfl (if_pos rfl) hmo rfl) ?_
 rintro _ w ⟨mo3, hmo, H⟩ A F
 rw [Sx.upd_upd] at H
 have hmo : Tb.MapIs mo3 [(0, .func (.func 43) #[] #[]), (1, .func (.func 44) #[] #[]), (2, .func (.func 45) #[] #[])] := hmo
 refine Zy F (d_mapIns (kt := 3) (et := 117) (by kernel_rfl) (by kernel_rfl) F H rfl rfl rfl rfl (if_pos rfl) hmo rfl) ?_
 rintro _ w ⟨mo4, hmo, H⟩ A F
 rw [Sx.upd_upd] at H
 have hmo : Tb.MapIs mo4 [(0, .func (.func 43) #[] #[]), (1, .func (.func 44) #[] #[]), (2, .func (.func 45) #[] #[]), (3, .func (.func 46) #[] #[])] := hmo
 refine Zy F (d_mapIns (kt := 3) (et := 117) (by kernel_rfl) (by kernel_rfl) F H rfl rfl rfl rfl (if_pos rfl) hmo rfl) ?_
 rintro _ w ⟨mo5, hmo, H⟩ A F
 rw [Sx.upd_upd] at H
 have hmo : Tb.MapIs mo5 [(0, .func (.func 43) #[] #[]), (1, .func (.func 44) #[] #[]), (2, .func (.func 45) #[] #[]), (3, .func (.func 46) #[] #[]), (4, .func (.func 47) #[] #[])] := hmo
 refine Zy F (d_mapIns (kt := 3) (et := 117) (by kernel_rfl) (by kernel_rfl) F H rfl rfl rfl rfl (if_pos rfl) hmo rfl) ?_
 rintro _ w ⟨mo6, hmo, H⟩ A F
 rw [Sx.upd_upd] at H
 have hmo : Tb.MapIs mo6 [(0, .func (.func 43) #[] #[]), (1, .func (.func 44) #[] #[]), (2, .func (.func 45) #[] #[]), (3, .func (.func 46) #[] #[]), (4, .func (.func 47) #[] #[]), (5, .func (.func 48) #[] #[])] := hmo
 refine Zy F (d_mapIns (kt := 3) (et := 117) (by kernel_rfl) (by kernel_rfl) F H rfl rfl rfl rfl (if_pos rfl) hmo rfl) ?_
 rintro _ w ⟨mo7, hmo, H⟩ A F
 rw [Sx.upd_upd] at H
 have hmo : Tb.MapIs mo7 [(0, .func (.func 43) #[] #[]), (1, .func (.func 44) #[] #[]), (2, .func (.func 45) #[] #[]), (3, .func (.func 46) #[] #[]), (4, .func (.func 47) #[] #[]), (5, .func (.func 48) #[] #[]), (6, .func (.func 49) #[] #[])] := hmo
 refine Zy F (d_mapIns (kt := 3) (et := 117) (by kernel_rfl) (by kernel_rfl) F H rfl rfl rfl rfl (if_pos rfl) hmo rfl) ?_
 rintro _ w ⟨mo8, hmo, H⟩ A F
 rw [Sx.upd_upd] at H
 have hmo : Tb.MapIs mo8 [(0, .func (.func 43) #[] #[]), (1, .func (.func 44) #[] #[]), (2, .func (.func 45) #[] #[]), (3, .func (.func 46) #[] #[]), (4, .func (.func 47) #[] #[]), (5, .func (.func 48) #[] #[]), (6, .func (.func 49) #[] #[]), (7, .func (.func 50) #[] #[])] := hmo
 refine Zy F (d_mapIns (kt := 3) (et := 117) (by kernel_rfl) (by kernel_rfl) F H rfl rfl rfl rfl (if_pos rfl) hmo rfl) ?_
 rintro _ w ⟨mo9, hmo, H⟩ A F
 rw [Sx.upd_upd] at H
 have hmo : Tb.MapIs mo9 [(0, .func (.func 43) #[] #[]), (1, .func (.func 44) #[] #[]), (2, .func (.func 45) #[] #[]), (3, .func (.func 46) #[] #[]), (4, .func (.func 47) #[] #[]), (5, .func (.func 48) #[] #[]), (6, .func (.func 49) #[] #[]), (7, .func (.func 50) #[] #[]), (8, .func (.func 51) #[] #[])] := hmo
 refine Zy F (d_mapIns (kt := 3) (et := 117) (by kernel_rfl) (by kernel_rfl) F H rfl rfl rfl rfl (if_pos rfl) hmo rfl) ?_
 rintro _ w ⟨mo10, hmo, H⟩ A F
 rw [Sx.upd_upd] at H
 have hmo : Tb.MapIs mo10 [(0, .func (.func 43) #[] #[]), (1, .func (.func 44) #[] #[]), (2, .func (.func 45) #[] #[]), (3, .func (.func 46) #[] #[]), (4, .func (.func 47) #[] #[]), (5, .func (.func 48) #[] #[]), (6, .func (.func 49) #[] #[]), (7, .func (.func 50) #[] #[]), (8, .func (.func 51) #[] #[]), (9, .func (.func 52) #[] #[])] := hmo
 iterate 2 (refine Av F ?_; intro A F)
 refine Nl kk (Sp fun _ kk => ?_)
 iterate 3 (refine Av F ?_; intro A F)
 refine Zv F (d_lookup (kt := 3) (et := 117) (z := .nilFunc) (v := .func (.func 43) #[] #[]) (b := true) (by kernel_rfl) (by kernel_rfl) (fun _ => by kernel_rfl) F H rfl rfl rfl (if_pos rfl) hmo rfl) fun A F => ?_
 have H := H.unkeep1 hmK
 iterate 5 (refine Av F ?_; intro A F)
 refine Nl kk (Sx.seq fun K4 hK4 => wp_block (Sp fun _ kk => Av F fun A F => ?_))
 refine Zv F (d_un (v := bF) F rfl rfl rfl) fun A F => ?_
 refine Av F fun A F => ?_
 refine Nl kk (condF F rfl (Sp fun _ kk => Av F fun A F => ?_))
 have H := H.pickN 3 0 [2, 0, 1] []
 refine Zx F (Do if_53 F (cx48 H)) ?_
 rintro _ w ⟨rfl, H⟩ A F
 iterate 6 (refine Av F ?_; intro A F)
 refine su F (wanted_off rfl (guard_known (d := 29) (b := false) F rfl rfl) rfl) rfl (by decide) (fun A F => ?_)
 refine su F (wanted_off rfl (guard_known (d := 29) (b := false) F rfl rfl) rfl) rfl (by decide) (fun A F => ?_)
 refine su F (wanted_off rfl (guard_known (d := 29) (b := false) F rfl rfl) rfl) rfl (by decide) (fun A F => ?_)
 iterate 2 (refine Av F ?_; intro A F)
 refine Nl kk (condF F rfl (wp_skip (hK4 _ _ (Sp fun _ kk => ?_))))
 iterate 3 (refine Av F ?_; intro A F)
 refine Zx F (d_callCO (fv := []) (vs := [pT g1 0, L105]) (cv := []) if_43 F rfl rfl rfl (cx66 H)) ?_
 rintro _ w ⟨g4, g5, g6, c1, g7, g8, hbc1, rfl, H⟩ A F
 refine Zs 5 [iI 0, iU 0, nS, nS, iI 0] sz_68 F H fun A w F H => ?_
 refine Nl kk (Wr (ret1 F Tryz.results19 (res_row (i := 5) (xs := [iI 0, iU 0, nS, nS, iI 0]) rw_68 F H rfl rfl rfl rfl) ?_))
 exact ⟨_, rfl, g4, g5, g6, c1, g7, g8, (by omega), rfl, H.pickN 7 1 [0, 1, 2, 3, 4] [0]⟩
set_option maxRecDepth 100000 in
theorem cx68 {g1 g2 g3 g4 c1 g5 g6 : Nat} (hbc1 : 1 ≤ c1) (H : Sx.Own w0 w ((true, g1, [pT g2 0]) :: (true, g2, [pT g3 0, iI 1, iU 0]) :: (true, g3, [sL g4 0 1 c1, iI 1]) :: (true, g5, (L140 g6)) :: (true, g6, L139) :: bs) (⟨true, sL g4 0 1 c1, 217, 2, 1, [iI 0, pT g5 0]⟩ :: rs) K) : Cq 53 #[pT g1 0] w fun x w' => x = bF ∧ Sx.Own w0 w' ((true, g1, [pT g2 0]) :: (true, g2, [pT g3 0, iI 1, iU 0]) :: (true, g3, [sL g4 0 1 c1, iI 1]) :: (true, g5, (L140 g6)) :: (true, g6, L139) :: bs) (⟨true, sL g4 0 1 c1, 217, 2, 1, [iI 0, pT g5 0]⟩ :: rs) K := by
 refine En Tryz.func53 Tryz.ntmps53 fun A F => ?_
 refine Sp fun _ kk => Av F fun A F => ?_
 refine Nl kk (Sp fun _ kk => ?_)
 iterate 4 (refine Av F ?_; intro A F)
 refine Zn bF F fun A F => ?_
 refine Av F fun A F => ?_
 refine Nl kk (Wr (ret1 F Tryz.results53 (res_tmp F rfl) ?_))
 exact ⟨_, rfl, rfl, H.pickN 5 1 [0, 1, 2, 3, 4] [0]⟩
set_option maxRecDepth 100000 in
theorem cx69 {g1 g2 : Nat}  (H : Sx.Own w0 w ((true, g1, (L140 g2)) :: (true, g2, L139) :: bs) (rs) K) : Cq 152 #[.agg #[iI 0, pT g1 0], iI 0] w fun x w' => x = iI 0 ∧ Sx.Own w0 w' ((true, g1, (L140 g2)) :: (true, g2, L139) :: bs) (rs) K := by
 refine En Tryz.func152 Tryz.ntmps152 fun A F => ?_
 refine Sp fun _ kk => Zb F (d_box F H rfl rfl [iI 0, pT g1 0] rfl) fun g3 A w F H => ?_
 refine Av F fun A F => ?_
 refine Nl kk (Sp fun _ kk => ?_)
 iterate 3 (refine Av F ?_; intro A F)
 refine Zv F (d_max (r := 0) F rfl rfl rfl (by decide)) fun A F => ?_
 refine Zv F (d_min (r := 0) F rfl rfl rfl (by decide)) fun A F => ?_
 refine Zn (iI 0) F fun A F => ?_
 refine Av F fun A F => ?_
 refine Nl kk (Wr (ret1 F Tryz.results152 (res_tmp F rfl) ?_))
 exact ⟨_, rfl, rfl, H.pickN 3 0 [1, 2] []⟩
set_option maxRecDepth 100000 in
theorem cx70 {g1 c1 g2 g3 : Nat} (hbc1 : 1 ≤ c1) (H : Sx.Own w0 w ((true, g2, (L140 g3)) :: (true, g3, L139) :: bs) (⟨true, sL g1 0 1 c1, 217, 2, 1, [iI 0, pT g2 0]⟩ :: rs) K) : Cq 151 #[sL g1 0 1 c1, iI 0, .func (.func 152) #[] #[]] w fun x w' => x = .tuple #[iI 0, bT] ∧ Sx.Own w0 w' ((true, g2, (L140 g3)) :: (true, g3, L139) :: bs) (⟨true, sL g1 0 1 c1, 217, 2, 1, [iI 0, pT g2 0]⟩ :: rs) K := by
 refine En Tryz.func151 Tryz.ntmps151 fun A F => ?_
 refine Sp fun _ kk => ?_
 iterate 2 (refine Av F ?_; intro A F)
 refine Nl kk (Sp fun _ kk => Av F fun A F => ?_)
 refine Zv F (d_lenS el_213 F rfl rfl) fun A F => ?_
 refine Av F fun A F => ?_
 refine Nl kk (Sp fun _ kk => ?_)
 iterate 3 (refine Av F ?_; intro A F)
 refine Nl kk (Sx.seq fun K4 hK4 => wp_block (wp_loop_rounds 40 ?_))
 try dsimp only [Exit.then, Exit.inBlock, Exit.jump, Exit.noGoto]
 rw [rounds_succ]
 refine Sx.seq fun K5 hK5 => Sp fun _ kk => ?_
 iterate 3 (refine Av F ?_; intro A F)
 refine Nl kk (condT F rfl (wp_skip (hK5 _ _ (wp_block (Sp fun _ kk => ?_)))))
 iterate 2 (refine Av F ?_; intro A F)
 refine Zn (iI 1) F fun A F => ?_
 refine Zv F (d_conv (v := iU 1) F rfl rfl (by kernel_rfl)) fun A F => ?_
 refine Zn (iU 0) F fun A F => ?_
 refine Zv F (d_conv (v := iI 0) F rfl rfl (by kernel_rfl)) fun A F => ?_
 refine Av F fun A F => ?_
 refine Nl kk (Sp fun _ kk => ?_)
 iterate 3 (refine Av F ?_; intro A F)
 refine Zv F (d_ixZ (k := 0) (g := g1) (off := 0) (z := 2) el_213 F rfl rfl rfl rfl rfl (by omega)) fun A F => ?_
 refine Zv F (Lr 0 [iI 0, pT g2 0] rw_217 F (H.rowBox (i := 0) rfl)) fun A F => ?_
 refine Av F fun A F => ?_
 refine Zx F (d_callCO (fv := []) (vs := [.agg #[iI 0, pT g2 0], iI 0]) (cv := []) if_152 F rfl rfl rfl (cx69 H)) ?_
 rintro _ w ⟨rfl, H⟩ A F
 refine Av F fun A F => ?_
 refine Nl kk (condF F rfl (Sx.plain ?_))
 iterate 2 (refine Av F ?_; intro A F)
 refine Sx.nil ?_
 try dsimp only [Exit.then, Exit.inBlock, Exit.jump, Exit.noGoto]
 rw [rounds_succ]
 refine Sx.seq fun K9 hK9 => Sp fun _ kk => ?_
 iterate 3 (refine Av F ?_; intro A F)
 refine Nl kk (condF F rfl (wp_exit ?_))
 try dsimp only [Exit.then, Exit.jump, Exit.noGoto]
 refine exit_here (hK4 _ _ (Sp fun _ kk => ?_))
 iterate 8 (refine Av F ?_; intro A F)
 refine Zv F (d_ixZ (k := 0) (g := g1) (off := 0) (z := 2) el_213 F rfl rfl rfl rfl rfl (by omega)) fun A F => ?_
 refine Zv F (Lr 0 [iI 0, pT g2 0] rw_217 F (H.rowBox (i := 0) rfl)) fun A F => ?_
 refine Av F fun A F => ?_
 refine Zx F (d_callCO (fv := []) (vs := [.agg #[iI 0, pT g2 0], iI 0]) (cv := []) if_152 F rfl rfl rfl (cx69 H)) ?_
 rintro _ w ⟨rfl, H⟩ A F
 iterate 4 (refine Av F ?_; intro A F)
 refine Nl kk (Wr (ret2 F Tryz.results151 (res_tmp F rfl) (res_tmp F rfl) ?_))
 exact ⟨_, rfl, rfl, H.pickN 2 1 [0, 1] [0]⟩
set_option maxRecDepth 100000 in
theorem cx71 {g1 g2 c1 g3 g4 : Nat} (hbc1 : 1 ≤ c1) (H : Sx.Own w0 w ((true, g1, [sL g2 0 1 c1, iI 1]) :: (true, g3, (L140 g4)) :: (true, g4, L139) :: bs) (⟨true, sL g2 0 1 c1, 217, 2, 1, [iI 0, pT g3 0]⟩ :: rs) K) : Cq 123 #[pT g1 0, iI 0] w fun x w' => x = .tuple #[iI 0, bT] ∧ Sx.Own w0 w' ((true, g1, [sL g2 0 1 c1, iI 1]) :: (true, g3, (L140 g4)) :: (true, g4, L139) :: bs) (⟨true, sL g2 0 1 c1, 217, 2, 1, [iI 0, pT g3 0]⟩ :: rs) K := by
 refine En Tryz.func123 Tryz.ntmps123 fun A F => ?_
 refine Sp fun _ kk => ?_
 iterate 2 (refine Av F ?_; intro A F)
 refine Nl kk (Sp fun _ kk => ?_)
 iterate 5 (refine Av F ?_; intro A F)
 have H := H.pickN 3 1 [1, 2, 0] [0]
 refine Zx F (Do if_151 F (cx70 (by omega) H)) ?_
 rintro _ w ⟨rfl, H⟩ A F
 iterate 4 (refine Av F ?_; intro A F)
 refine Nl kk (Wr (ret2 F Tryz.results123 (res_tmp F rfl) (res_tmp F rfl) ?_))
 exact ⟨_, rfl, rfl, H.pickN 3 1 [2, 0, 1] [0]⟩
set_option maxRecDepth 100000 in
theorem cx72 {g1 g2 c1 g3 g4 : Nat} (hbc1 : 1 ≤ c1) (H : Sx.Own w0 w ((true, g1, [sL g2 0 1 c1, iI 1]) :: (true, g3, (L140 g4)) :: (true, g4, L139) :: bs) (⟨true, sL g2 0 1 c1, 217, 2, 1, [iI 0, pT g3 0]⟩ :: rs) K) : Cq 83 #[pT g1 0, iI 0] w fun x w' => x = .tuple #[pT g3 0, bT] ∧ Sx.Own w0 w' ((true, g1, [sL g2 0 1 c1, iI 1]) :: (true, g3, (L140 g4)) :: (true, g4, L139) :: bs) (⟨true, sL g2 0 1 c1, 217, 2, 1, [iI 0, pT g3 0]⟩ :: rs) K := by
 refine En Tryz.func83 Tryz.ntmps83 fun A F => ?_
 refine Sp fun _ kk => ?_
 iterate 2 (refine Av F ?_; intro A F)
 refine Nl kk (Sp fun _ kk => ?_)
 iterate 2 (refine Av F ?_; intro A F)
 refine Zx F (Do if_123 F (cx71 (by omega) H)) ?_
 rintro _ w ⟨rfl, H⟩ A F
 iterate 5 (refine Av F ?_; intro A F)
 refine Nl kk (Sx.seq fun K3 hK3 => Sp fun _ kk => Av F fun A F => ?_)
 refine Zv F (d_un (v := bF) F rfl rfl rfl) fun A F => ?_
 refine Nl kk (condF F rfl (wp_skip (hK3 _ _ (Sp fun _ kk => ?_))))
 iterate 5 (refine Av F ?_; intro A F)
 refine Zv F (d_ixZ (k := 0) (g := g2) (off := 0) (z := 2) el_213 F rfl rfl rfl rfl rfl (by omega)) fun A F => ?_
 refine Av F fun A F => ?_
 refine Zv F (Ld 0 one_161 F (H.rowBox (i := 0) rfl)) fun A F => ?_
 iterate 2 (refine Av F ?_; intro A F)
 refine Nl kk (Wr (ret2 F Tryz.results83 (res_tmp F rfl) (res_tmp F rfl) ?_))
 exact ⟨_, rfl, rfl, H.pickN 3 1 [0, 1, 2] [0]⟩
set_option maxRecDepth 100000 in
theorem cx73 {g1 g2 g3 c1 g4 g5 : Nat} (hbc1 : 1 ≤ c1) (H : Sx.Own w0 w ((true, g1, [pT g2 0, iI 1, iU 0]) :: (true, g2, [sL g3 0 1 c1, iI 1]) :: (true, g4, (L140 g5)) :: (true, g5, L139) :: bs) (⟨true, sL g3 0 1 c1, 217, 2, 1, [iI 0, pT g4 0]⟩ :: rs) K) : Cq 95 #[pT g1 0, iI 0] w fun x w' => x = .tuple #[pT g4 0, iI 0] ∧ Sx.Own w0 w' ((true, g1, [pT g2 0, iI 1, iU 0]) :: (true, g2, [sL g3 0 1 c1, iI 1]) :: (true, g4, (L140 g5)) :: (true, g5, L139) :: bs) (⟨true, sL g3 0 1 c1, 217, 2, 1, [iI 0, pT g4 0]⟩ :: rs) K := by
 refine En Tryz.func95 Tryz.ntmps95 fun A F => ?_
 refine Sp fun _ kk => ?_
 iterate 2 (refine Av F ?_; intro A F)
 refine Nl kk (Sp fun _ kk => ?_)
 iterate 5 (refine Av F ?_; intro A F)
 have H := H.pickN 4 1 [1, 2, 3, 0] [0]
 refine Zx F (Do if_83 F (cx72 (by omega) H)) ?_
 rintro _ w ⟨rfl, H⟩ A F
 iterate 5 (refine Av F ?_; intro A F)
 refine Nl kk (Sx.seq fun K3 hK3 => Sp fun _ kk => Av F fun A F => ?_)
 refine Zv F (d_un (v := bF) F rfl rfl rfl) fun A F => ?_
 refine Nl kk (condF F rfl (wp_skip (hK3 _ _ (Sp fun _ kk => ?_))))
 iterate 3 (refine Av F ?_; intro A F)
 refine Nl kk (Wr (ret2 F Tryz.results95 (res_tmp F rfl) (res_tmp F rfl) ?_))
 exact ⟨_, rfl, rfl, H.pickN 4 1 [3, 0, 1, 2] [0]⟩
set_option maxRecDepth 100000 in
theorem cx74 {g1 g2 c1 g3 g4 : Nat} (hbc1 : 1 ≤ c1) (H : Sx.Own w0 w ((true, g1, [sL g2 0 1 c1, iI 1]) :: (true, g3, (L140 g4)) :: (true, g4, L139) :: bs) (⟨true, sL g2 0 1 c1, 217, 2, 1, [iI 0, pT g3 0]⟩ :: rs) K) : Cq 82 #[pT g1 0] w fun x w' => ∃ g7 c2 : Nat, 1 ≤ c2 ∧ x = sL g7 0 1 c2 ∧ Sx.Own w0 w' ((true, g1, [sL g2 0 1 c1, iI 1]) :: (true, g3, (L140 g4)) :: (true, g4, L139) :: bs) (⟨true, sL g2 0 1 c1, 217, 2, 1, [iI 0, pT g3 0]⟩ :: ⟨true, sL g7 0 1 c2, 3, 1, 1, [iI 0]⟩ :: rs) K := by
 refine En Tryz.func82 Tryz.ntmps82 fun A F => ?_
 refine Sp fun _ kk => Av F fun A F => ?_
 refine Nl kk (Sp fun _ kk => Av F fun A F => ?_)
 refine Nl kk (Sx.seq fun K3 hK3 => Sp fun _ kk => ?_)
 iterate 4 (refine Av F ?_; intro A F)
 refine Zv F (d_lenS el_213 F rfl rfl) fun A F => ?_
 refine Av F fun A F => ?_
 refine Nl kk (wp_block (wp_loop_rounds 40 ?_))
 try dsimp only [Exit.then, Exit.inBlock, Exit.jump, Exit.noGoto]
 rw [rounds_succ]
 refine Sp fun _ kk => Av F fun A F => ?_
 refine Nl kk (Sx.seq fun K6 hK6 => condT F rfl (wp_skip (hK6 _ _ (Sx.seq fun K7 hK7 => wp_block (Sp fun _ kk => Zv F (d_ixZ (k := 0) (g := g2) (off := 0) (z := 2) el_213 F rfl rfl rfl rfl rfl (by omega)) fun A F => ?_)))))
 refine Zv F (Lr 0 [iI 0, pT g3 0] rw_217 F (H.rowBox (i := 0) rfl)) fun A F => ?_
 refine Zb F (d_alloc H rfl [iI 0, nP] zero_217) fun g5 A w F H => ?_
 refine Zs 0 [iI 0, pT g3 0] sz_217 F H fun A w F H => ?_
 refine Nl kk (Sx.plain ?_)
 iterate 3 (refine Av F ?_; intro A F)
 refine Zg (mk := fun g => sL g 0 1 1) F (d_lit (qs := #[(0, iI 0)]) (cs := #[iI 0]) (E := 3) F H rfl rfl (fun _ => by kernel_rfl)) fun g6 A w F H => ?_
 have H := Sx.Own.nilR H 3 1
 refine Zr (mk := fun v => v) F (d_append (i := 0) (j := 0) el_54 F H rfl rfl rfl rfl rfl rfl rfl rfl (by decide) (by decide)) fun v1 A w F H => ?_
 obtain ⟨g7, c2, rfl, hbc2, hdc2⟩ := H.open (i := 0) rfl (by decide)
 refine Av F fun A F => ?_
 refine Sx.nil (hK7 _ _ (Sx.plain ?_))
 refine Zn (iI 1) F fun A F => ?_
 refine Av F fun A F => ?_
 refine Sx.nil ?_
 try dsimp only [Exit.then, Exit.inBlock, Exit.jump, Exit.noGoto]
 rw [rounds_succ]
 refine Sp fun _ kk => Av F fun A F => ?_
 refine Nl kk (Sx.seq fun K10 hK10 => condF F rfl (wp_exit ?_))
 try dsimp only [Exit.then, Exit.jump, Exit.noGoto]
 refine exit_here (hK3 _ _ (Sp fun _ kk => ?_))
 iterate 2 (refine Av F ?_; intro A F)
 refine Nl kk (Wr (ret1 F Tryz.results82 (res_tmp F rfl) ?_))
 exact ⟨_, rfl, g7, c2, (by omega), rfl, H.pickN 5 2 [2, 3, 4] [1, 0]⟩
set_option maxRecDepth 100000 in
theorem cx75 {g1 g2 c1 g3 g4 : Nat} (hbc1 : 1 ≤ c1) (H : Sx.Own w0 w ((true, g1, [sL g2 0 1 c1, iI 1]) :: (true, g3, (L140 g4)) :: (true, g4, L139) :: bs) (⟨true, sL g2 0 1 c1, 217, 2, 1, [iI 0, pT g3 0]⟩ :: rs) K) : Cq 96 #[pT g1 0] w fun x w' => x = iI 1 ∧ Sx.Own w0 w' ((true, g1, [sL g2 0 1 c1, iI 1]) :: (true, g3, (L140 g4)) :: (true, g4, L139) :: bs) (⟨true, sL g2 0 1 c1, 217, 2, 1, [iI 0, pT g3 0]⟩ :: rs) K := by
 refine En Tryz.func96 Tryz.ntmps96 fun A F => ?_
 refine Sp fun _ kk => Av F fun A F => ?_
 refine Nl kk (Sp fun _ kk => ?_)
 iterate 5 (refine Av F ?_; intro A F)
 refine Nl kk (Wr (ret1 F Tryz.results96 (res_tmp F rfl) ?_))
 exact ⟨_, rfl, rfl, H.pickN 3 1 [0, 1, 2] [0]⟩
set_option maxRecDepth 100000 in
theorem cx76 {g1 : Nat}  (H : Sx.Own w0 w ((true, g1, L139) :: bs) (rs) K) : Cq 124 #[pT g1 0] w fun x w' => x = .agg #[iU 0, iU 0] ∧ Sx.Own w0 w' ((true, g1, L139) :: bs) (rs) K := by
 refine En Tryz.func124 Tryz.ntmps124 fun A F => ?_
 refine Sp fun _ kk => Zb F (d_alloc H rfl [iU 0, iU 0] zero_26) fun g2 A w F H => ?_
 refine Nl kk (Sp fun _ kk => ?_)
 iterate 4 (refine Av F ?_; intro A F)
 refine Zs 0 [iU 0, iU 0] sz_26 F H fun A w F H => ?_
 refine Nl kk (Wr (ret1 F Tryz.results124 (res_row (i := 0) (xs := [iU 0, iU 0]) rw_26 F H rfl rfl rfl rfl) ?_))
 exact ⟨_, rfl, rfl, H.pickN 2 0 [1] []⟩
set_option maxRecDepth 100000 in
theorem cx77 {g1 g2 : Nat}  (H : Sx.Own w0 w ((true, g1, (L140 g2)) :: (true, g2, L139) :: bs) (rs) K) : Cq 84 #[pT g1 0] w fun x w' => x = L127 ∧ Sx.Own w0 w' ((true, g1, (L140 g2)) :: (true, g2, L139) :: bs) (rs) K := by
 refine En Tryz.func84 Tryz.ntmps84 fun A F => ?_
 refine Sp fun _ kk => Zb F (d_alloc H rfl [iU 0, iU 0, iU 0, iU 0] zero_79) fun g3 A w F H => ?_
 refine Nl kk (Sx.seq fun K2 hK2 => ?_)
 have F := F.tq [(0, pT g1 0), (2, pT g3 0)] rfl
 refine Dn F [some (pT g1 0), some (pT g1 0), some (pT g1 0), some (pT g2 0), some (.agg #[iU 0, iU 0]), some (pT g1 0), some (pT g1 0), some (pT g1 1), some (L126), some (L127), none] (fun L A w => Sx.Own w0 w ((true, g3, (cond (L 10) L128 [iU 0, iU 0, iU 0, iU 0])) :: (true, g1, (L140 g2)) :: (true, g2, L139) :: bs) (rs) K) (H.drew.padG [] [] rfl rfl) ?_ ?_
 ·refine ⟨?_, ?_, ?_, ?_, ?_, ?_, ?_, ?_, ?_, ?_, ?_, trivial⟩
  ·exact Sa
  ·exact Sa
  ·exact Sa
  ·exact SV (fun _ _ _ F H => Ld 1 one_220 F H)
  ·intro L A w up hun hd F H
   have f10 : L 10 = false := up 10 4 rfl hun
   rw [f10] at H
   have H : Sx.Own w0 w ((true, g3, [iU 0, iU 0, iU 0, iU 0]) :: (true, g1, (L140 g2)) :: (true, g2, L139) :: bs) (rs) K := H
   have H := H.pickN 3 0 [2, 0, 1] []
   refine step_on rfl (Do if_124 F (cx76 H)) ?_
   rintro xv w' ⟨hx, H⟩
   have H := H.pickN 3 0 [1, 2, 0] []
   exact ⟨Cs hx, (by show Sx.Own _ _ _ _ _; rw [show Inv.add L 4 10 = false from f10]; exact H)⟩
  ·exact Sa
  ·exact Sa
  ·exact Sa
  ·exact SV (fun _ _ _ F H => Lr 1 [iU 0, iU 9223372036854775808] rw_26 F H)
  ·exact SV (fun _ _ _ F _ => d_build (qs := #[(0, .agg #[iU 0, iU 0]), (1, L126)]) (v := L127) F rfl rfl (by kernel_rfl))
  ·intro L A w up hun hd F H
   have f10 : L 10 = false := hun
   rw [f10] at H
   refine step_on rfl (d_store (i := 0) (xs := L128) (us := L128) sz_79 F H rfl rfl rfl rfl rfl rfl rfl (Nat.le_of_ble_eq_true rfl) rfl) ?_
   intro xv w' H
   exact ⟨Cn, H⟩
 ·intro L A w hL F H
  have t10 : L 10 = true := hL 10 rfl
  rw [t10] at H
  have H := H.pickN 3 0 [0, 1, 2] []
  have F := F.tq [(2, pT g3 0)] rfl
  refine hK2 _ _ (Wr (ret1 F Tryz.results84 (res_row (i := 0) (xs := L128) rw_79 F H rfl rfl rfl rfl) ?_))
  exact ⟨_, rfl, rfl, H.pickN 3 0 [1, 2] []⟩
set_option maxRecDepth 100000 in
abbrev L142 : Value := .tuple #[.agg #[iU 0, iU 9223372036854775808], bF]
abbrev L144 : Value := .tuple #[.agg #[uH (9223372036854775808#128 - 0#128), uL (9223372036854775808#128 - 0#128)], .bool (Wd.less 9223372036854775808#128 0#128)]
theorem cx78   (H : Sx.Own w0 w (bs) (rs) K) : Cq 135 #[L127] w fun x w' => x = L126 ∧ Sx.Own w0 w' (bs) (rs) K := by
 refine En Tryz.func135 Tryz.ntmps135 fun A F => ?_
 refine Sp fun _ kk => Zb F (d_box F H rfl rfl L128 rfl) fun g1 A w F H => ?_
 refine Zb F (d_alloc H rfl [iU 0, iU 0] zero_26) fun g2 A w F H => ?_
 refine Nl kk (Sx.seq fun K2 hK2 => Sp fun _ kk => Av F fun A F => ?_)
 refine Zx F (Do if_119 F (cx51 H)) ?_
 rintro _ w ⟨rfl, H⟩ A F
 refine Zv F (d_un (v := bF) F rfl rfl rfl) fun A F => ?_
 refine Nl kk (condF F rfl (wp_skip (hK2 _ _ (Sp fun _ kk => ?_))))
 iterate 4 (refine Av F ?_; intro A F)
 refine Zw F (Dc (v := L142) if_155 F H (Calls.val (v := L144) (wsub_c 9223372036854775808#128 0#128 _) rfl (by kernel_rfl))) fun A w F H => ?_
 iterate 3 (refine Av F ?_; intro A F)
 refine Zb F (d_alloc H rfl [iU 0, iU 0] zero_26) fun g3 A w F H => ?_
 refine Zs 0 [iU 0, iU 9223372036854775808] sz_26 F H fun A w F H => ?_
 refine Av F fun A F => ?_
 refine Nl kk (Sp fun _ kk => Av F fun A F => ?_)
 refine Zs 1 [iU 0, iU 9223372036854775808] sz_26 F H fun A w F H => ?_
 refine Nl kk (Wr (ret1 F Tryz.results135 (res_row (i := 1) (xs := [iU 0, iU 9223372036854775808]) rw_26 F H rfl rfl rfl rfl) ?_))
 exact ⟨_, rfl, rfl, H.pickN 3 0 [] []⟩
set_option maxRecDepth 100000 in
abbrev L145 : Value := .agg #[iU 0, iU 4611686018427387904]
abbrev L146 : Value := .agg #[iU 0, iU 0, iU 0, iU 4611686018427387904]
abbrev L147 : Value := .agg #[iU 0, iU 4611686018427387904, iU 0, iU 9223372036854775808]
abbrev L148 : List Value := [iU 0, iU 4611686018427387904, iU 0, iU 9223372036854775808]
abbrev L149 : List Value := [iU 0, iU 0, iU 0, iU 4611686018427387904]
theorem cx79   (H : Sx.Own w0 w (bs) (rs) K) : Cq 137 #[L127, L145] w fun x w' => x = .tuple #[L146, L147] ∧ Sx.Own w0 w' (bs) (rs) K := by
 refine En Tryz.func137 Tryz.ntmps137 fun A F => ?_
 refine Sp fun _ kk => Zb F (d_box F H rfl rfl L128 rfl) fun g1 A w F H => ?_
 refine Zb F (d_box F H rfl rfl [iU 0, iU 4611686018427387904] rfl) fun g2 A w F H => ?_
 refine Zb F (d_alloc H rfl [iU 0, iU 0, iU 0, iU 0] zero_79) fun g3 A w F H => ?_
 refine Zb F (d_alloc H rfl [iU 0, iU 0, iU 0, iU 0] zero_79) fun g4 A w F H => ?_
 refine Nl kk (Sx.seq fun K2 hK2 => ?_)
 have F := F.tq [(2, pT g1 0), (3, pT g2 0), (4, pT g3 0), (5, pT g4 0)] rfl
 refine Dn F [some (pT g1 0), some (.agg #[iU 0, iU 0]), some (L145), some (L146), some (L145), some (pT g1 2), some (L126), some (L147), none, none] (fun L A w => Sx.Own w0 w ((true, g4, (cond (L 9) L148 [iU 0, iU 0, iU 0, iU 0])) :: (true, g3, (cond (L 8) L149 [iU 0, iU 0, iU 0, iU 0])) :: (true, g2, [iU 0, iU 4611686018427387904]) :: (true, g1, L128) :: bs) (rs) K) (H.drew.padG [] [] rfl rfl) ?_ ?_
 ·refine ⟨?_, ?_, ?_, ?_, ?_, ?_, ?_, ?_, ?_, ?_, trivial⟩
  ·exact Sa
  ·exact SV (fun _ _ _ F H => Lr 3 [iU 0, iU 0] rw_26 F H)
  ·exact SV (fun _ _ _ F H => Lr 2 [iU 0, iU 4611686018427387904] rw_26 F H)
  ·exact SV (fun _ _ _ F _ => d_build (qs := #[(0, .agg #[iU 0, iU 0]), (1, L145)]) (v := L146) F rfl rfl (by kernel_rfl))
  ·exact SV (fun _ _ _ F H => Lr 2 [iU 0, iU 4611686018427387904] rw_26 F H)
  ·exact Sa
  ·exact SV (fun _ _ _ F H => Lr 3 [iU 0, iU 9223372036854775808] rw_26 F H)
  ·exact SV (fun _ _ _ F _ => d_build (qs := #[(0, L145), (1, L126)]) (v := L147) F rfl rfl (by kernel_rfl))
  ·intro L A w up hun hd F H
   have f8 : L 8 = false := hun
   have f9 : L 9 = false := up 9 8 rfl hun
   rw [f8, f9] at H
   refine step_on rfl (d_store (i := 1) (xs := L149) (us := L149) sz_79 F H rfl rfl rfl rfl rfl rfl rfl (Nat.le_of_ble_eq_true rfl) rfl) ?_
   intro xv w' H
   exact ⟨Cn, (by show Sx.Own _ _ _ _ _; rw [show Inv.add L 8 9 = false from f9]; exact H)⟩
  ·intro L A w up hun hd F H
   have t8 : L 8 = true := hd 8 rfl
   have f9 : L 9 = false := hun
   rw [t8, f9] at H
   refine step_on rfl (d_store (i := 0) (xs := L148) (us := L148) sz_79 F H rfl rfl rfl rfl rfl rfl rfl (Nat.le_of_ble_eq_true rfl) rfl) ?_
   intro xv w' H
   exact ⟨Cn, (by show Sx.Own _ _ _ _ _; rw [show Inv.add L 9 8 = true from t8]; exact H)⟩
 ·intro L A w hL F H
  have t8 : L 8 = true := hL 8 rfl
  have t9 : L 9 = true := hL 9 rfl
  rw [t8, t9] at H
  have H := H.pickN 4 0 [0, 1, 2, 3] []
  have F := F.tq [(4, pT g3 0), (5, pT g4 0)] rfl
  refine hK2 _ _ (Wr (ret2 F Tryz.results137 (res_row (i := 1) (xs := L149) rw_79 F H rfl rfl rfl rfl) (res_row (i := 0) (xs := L148) rw_79 F H rfl rfl rfl rfl) ?_))
  exact ⟨_, rfl, rfl, H.pickN 4 0 [] []⟩
set_option maxRecDepth 100000 in
abbrev L150 : Value := .tuple #[.agg #[iU 0, iU 4611686018427387904], bF]
theorem cx80   (H : Sx.Own w0 w (bs) (rs) K) : Cq 97 #[L127] w fun x w' => x = .tuple #[L146, L147, iI 0] ∧ Sx.Own w0 w' (bs) (rs) K := by
 refine En Tryz.func97 Tryz.ntmps97 fun A F => ?_
 refine Sp fun _ kk => Zb F (d_box F H rfl rfl L128 rfl) fun g1 A w F H => ?_
 refine Zb F (d_alloc H rfl [iU 0, iU 0, iU 0, iU 0] zero_79) fun g2 A w F H => ?_
 refine Zb F (d_alloc H rfl [iU 0, iU 0, iU 0, iU 0] zero_79) fun g3 A w F H => ?_
 refine Av F fun A F => ?_
 refine Nl kk (Sp fun _ kk => Av F fun A F => ?_)
 refine Zx F (Do if_135 F (cx78 H)) ?_
 rintro _ w ⟨rfl, H⟩ A F
 refine Zb F (d_alloc H rfl [iU 0, iU 0] zero_26) fun g4 A w F H => ?_
 refine Zs 0 [iU 0, iU 9223372036854775808] sz_26 F H fun A w F H => ?_
 refine Nl kk (Sx.seq fun K3 hK3 => wp_block (Sp fun _ kk => Av F fun A F => ?_))
 refine Zx F (Do if_119 F (cx51 H)) ?_
 rintro _ w ⟨rfl, H⟩ A F
 refine Zv F (d_un (v := bF) F rfl rfl rfl) fun A F => ?_
 refine Av F fun A F => ?_
 refine Nl kk (condF F rfl (Sp fun _ kk => Av F fun A F => ?_))
 refine Zw F (Dc (v := iI 64) if_136 F H (Calls.val (v := iI (Bi.len 9223372036854775808#128)) (wlen_c 9223372036854775808#128 _) rfl (by kernel_rfl))) fun A w F H => ?_
 iterate 2 (refine Av F ?_; intro A F)
 refine Nl kk (condF F rfl (wp_skip (hK3 _ _ (Sx.seq fun K6 hK6 => ?_))))
 have F := F.tq [(1, pT g1 0), (2, pT g2 0), (3, pT g3 0), (4, iI 0), (5, pT g4 0)] rfl
 refine Dn F [some (pT g1 0), some (.agg #[iU 0, iU 0]), some (L126), some (L145), some (L150), some (L150), some (L145), some (bF), none, none, some (bF)] (fun L A w => ∃ g5 : Nat, (L 8 = true → A.eval (.tmp 6) = pT g5 0) ∧ Sx.Own w0 w ((L 8, g5, (cond (L 9) [iU 0, iU 4611686018427387904] [iU 0, iU 0])) :: (true, g4, [iU 0, iU 9223372036854775808]) :: (true, g3, [iU 0, iU 0, iU 0, iU 0]) :: (true, g2, [iU 0, iU 0, iU 0, iU 0]) :: (true, g1, L128) :: bs) (rs) K) ⟨0, (fun h => by cases h), H.drew.padG [(false, 0, [iU 0, iU 0])] [] rfl rfl⟩ ?_ ?_
 ·refine ⟨?_, ?_, ?_, ?_, ?_, ?_, ?_, ?_, ?_, ?_, ?_, trivial⟩
  ·exact Sa (hS := (fun _ _ _ _ ⟨g5, p8, H⟩ => ⟨g5, Pk p8, H⟩))
  ·exact SV (fun _ _ _ F ⟨g5, p8, H⟩ => Lr 4 [iU 0, iU 0] rw_26 F H) (fun _ _ _ _ ⟨g5, p8, H⟩ => ⟨g5, Pk p8, H⟩)
  ·exact SV (fun _ _ _ F ⟨g5, p8, H⟩ => Lr 1 [iU 0, iU 9223372036854775808] rw_26 F H) (fun _ _ _ _ ⟨g5, p8, H⟩ => ⟨g5, Pk p8, H⟩)
  ·intro L A w up hun hd F ⟨g5, p8, H⟩
   have f9 : L 9 = false := up 9 3 rfl hun
   rw [f9] at H
   refine step_on rfl (Dc (v := L145) if_125 F H (Calls.val (v := .agg #[uH (9223372036854775808#128 >>> 1), uL (9223372036854775808#128 >>> 1)]) (wrightN_c 9223372036854775808#128 1 (by omega) _) rfl (by kernel_rfl))) ?_
   rintro xv w' ⟨hx, H⟩
   exact ⟨Cs hx, ⟨g5, Pk p8, (by show Sx.Own _ _ _ _ _; rw [show Inv.add L 3 9 = false from f9]; exact H)⟩⟩
  ·intro L A w up hun hd F ⟨g5, p8, H⟩
   have f9 : L 9 = false := up 9 4 rfl hun
   rw [f9] at H
   refine step_on rfl (Dc (v := L150) if_14 F H (Calls.val (v := .tuple #[.agg #[uH (0#128 + 4611686018427387904#128), uL (0#128 + 4611686018427387904#128)], .bool (Wd.over 0#128 4611686018427387904#128)]) (wadd_c 0#128 4611686018427387904#128 _) rfl (by kernel_rfl))) ?_
   rintro xv w' ⟨hx, H⟩
   exact ⟨Cs hx, ⟨g5, Pk p8, (by show Sx.Own _ _ _ _ _; rw [show Inv.add L 4 9 = false from f9]; exact H)⟩⟩
  ·exact Sa (hS := (fun _ _ _ _ ⟨g5, p8, H⟩ => ⟨g5, Pk p8, H⟩))
  ·exact Sa (hS := (fun _ _ _ _ ⟨g5, p8, H⟩ => ⟨g5, Pk p8, H⟩))
  ·exact Sa (hS := (fun _ _ _ _ ⟨g5, p8, H⟩ => ⟨g5, Pk p8, H⟩))
  ·intro L A w up hun hd F ⟨g5, p8, H⟩
   have f8 : L 8 = false := hun
   have f9 : L 9 = false := up 9 8 rfl hun
   rw [f8, f9] at H
   refine step_on rfl (d_alloc H rfl [iU 0, iU 0] zero_26) ?_
   rintro xv w' ⟨g6, hx, H⟩
   have H := H.pickN 6 0 [0, 2, 3, 4, 5] []
   exact ⟨Cn, ⟨g6, (fun _ => (Sx.put_same F (by decide) _).trans hx), (by show Sx.Own _ _ _ _ _; rw [show Inv.add L 8 9 = false from f9]; exact H)⟩⟩
  ·intro L A w up hun hd F ⟨g5, p8, H⟩
   have t8 : L 8 = true := hd 8 rfl
   have f9 : L 9 = false := hun
   rw [t8, f9] at H
   have F := Fr.add F (p8 t8)
   refine step_on rfl (d_store (i := 0) (xs := [iU 0, iU 4611686018427387904]) (us := [iU 0, iU 4611686018427387904]) sz_26 F H rfl rfl rfl rfl rfl rfl rfl (Nat.le_of_ble_eq_true rfl) rfl) ?_
   intro xv w' H
   exact ⟨Cn, ⟨g5, p8, (by show Sx.Own _ _ _ _ _; rw [show Inv.add L 9 8 = true from t8]; exact H)⟩⟩
  ·intro L A w up hun hd F ⟨g5, p8, H⟩
   have t8 : L 8 = true := hd 8 rfl
   have t9 : L 9 = true := hd 9 rfl
   have G := H; rw [t8, t9] at G
   have F := Fr.add F (p8 t8)
   refine step_on rfl (d_move F (Or.inr rfl) rfl) ?_
   rintro xv w' ⟨hx, rfl⟩
   exact ⟨Cs hx, ⟨g5, Pk p8, H⟩⟩
 ·intro L A w hL F ⟨g5, p8, H⟩
  have t8 : L 8 = true := hL 8 rfl
  have t9 : L 9 = true := hL 9 rfl
  rw [t8, t9] at H
  have F := Fr.add F (p8 t8)
  have H := H.pickN 5 0 [0, 1, 2, 3, 4] []
  have F := F.tq [(1, pT g1 0), (2, pT g2 0), (3, pT g3 0), (4, iI 0), (5, pT g4 0), (6, pT g5 0)] rfl
  refine hK6 _ _ (Sx.seq fun K7 hK7 => ?_)
  have F := F.tq [(1, pT g1 0), (2, pT g2 0), (3, pT g3 0), (4, iI 0), (5, pT g4 0), (6, pT g5 0)] rfl
  refine Dn F [some (L145), some (pT g4 1), some (iU 9223372036854775808), some (iU 0), some (.agg #[iU 0, iU 0]), some (L150), some (L150), some (L145), some (bF), none] (fun L A w => Sx.Own w0 w ((true, g5, [iU 0, iU 4611686018427387904]) :: (true, g4, [iU 0, iU 9223372036854775808]) :: (true, g3, [iU 0, iU 0, iU 0, iU 0]) :: (true, g2, [iU 0, iU 0, iU 0, iU 0]) :: (true, g1, L128) :: bs) (rs) K) (H.drew.padG [] [] rfl rfl) ?_ ?_
  ·refine ⟨?_, ?_, ?_, ?_, ?_, ?_, ?_, ?_, ?_, ?_, trivial⟩
   ·exact SV (fun _ _ _ F H => Lr 0 [iU 0, iU 4611686018427387904] rw_26 F H)
   ·exact Sa
   ·exact SV (fun _ _ _ F H => Ld 1 one_22 F H)
   ·exact SV (fun _ _ _ F _ => Bn (iU 0) F rfl rfl rfl (by kernel_rfl))
   ·intro L A w up hun hd F H
    refine step_on rfl (d_call (vs := [iU 0]) (v := .agg #[iU 0, iU 0]) if_15 F H rfl rfl (Calls.val (v := L2) (Calls.val (wofV_c 0#64 _) (by kernel_rfl) (by kernel_rfl)) rfl (by kernel_rfl))) ?_
    rintro xv w' ⟨hx, H⟩
    exact ⟨Cs hx, H⟩
   ·intro L A w up hun hd F H
    refine step_on rfl (Dc (v := L150) if_14 F H (Calls.val (v := .tuple #[.agg #[uH (4611686018427387904#128 + 0#128), uL (4611686018427387904#128 + 0#128)], .bool (Wd.over 4611686018427387904#128 0#128)]) (wadd_c 4611686018427387904#128 0#128 _) rfl (by kernel_rfl))) ?_
    rintro xv w' ⟨hx, H⟩
    exact ⟨Cs hx, H⟩
   ·exact Sa
   ·exact Sa
   ·exact Sa
   ·intro L A w up hun hd F H
    refine step_on rfl (d_store (i := 0) (xs := [iU 0, iU 4611686018427387904]) (us := [iU 0, iU 4611686018427387904]) sz_26 F H rfl rfl rfl rfl rfl rfl rfl (Nat.le_of_ble_eq_true rfl) rfl) ?_
    intro xv w' H
    exact ⟨Cn, H⟩
  ·intro L A w hL F H
   have H := H.pickN 5 0 [0, 1, 2, 3, 4] []
   have F := F.tq [(1, pT g1 0), (2, pT g2 0), (3, pT g3 0), (4, iI 0), (6, pT g5 0)] rfl
   refine hK7 _ _ (Sp fun _ kk => ?_)
   iterate 2 (refine Av F ?_; intro A F)
   refine Zx F (Do if_137 F (cx79 H)) ?_
   rintro _ w ⟨rfl, H⟩ A F
   iterate 3 (refine Av F ?_; intro A F)
   refine Zb F (d_alloc H rfl [iU 0, iU 0, iU 0, iU 0] zero_79) fun g7 A w F H => ?_
   refine Zb F (d_alloc H rfl [iU 0, iU 0, iU 0, iU 0] zero_79) fun g8 A w F H => ?_
   refine Zs 1 L149 sz_79 F H fun A w F H => ?_
   refine Zs 0 L148 sz_79 F H fun A w F H => ?_
   refine Nl kk (Sx.seq fun K9 hK9 => ?_)
   have F := F.tq [(2, pT g2 0), (3, pT g3 0), (8, pT g7 0), (9, pT g8 0)] rfl
   refine Dn F [some (L146), some (L147), none, none, some (iI 0)] (fun L A w => Sx.Own w0 w ((true, g8, L148) :: (true, g7, L149) :: (true, g5, [iU 0, iU 4611686018427387904]) :: (true, g4, [iU 0, iU 9223372036854775808]) :: (true, g3, (cond (L 3) L148 [iU 0, iU 0, iU 0, iU 0])) :: (true, g2, (cond (L 2) L149 [iU 0, iU 0, iU 0, iU 0])) :: (true, g1, L128) :: bs) (rs) K) (H.drew.padG [] [] rfl rfl) ?_ ?_
   ·refine ⟨?_, ?_, ?_, ?_, ?_, trivial⟩
    ·exact SV (fun _ _ _ F H => Lr 1 L149 rw_79 F H)
    ·exact SV (fun _ _ _ F H => Lr 0 L148 rw_79 F H)
    ·intro L A w up hun hd F H
     have f2 : L 2 = false := hun
     have f3 : L 3 = false := up 3 2 rfl hun
     rw [f2, f3] at H
     refine step_on rfl (d_store (i := 5) (xs := L149) (us := L149) sz_79 F H rfl rfl rfl rfl rfl rfl rfl (Nat.le_of_ble_eq_true rfl) rfl) ?_
     intro xv w' H
     exact ⟨Cn, (by show Sx.Own _ _ _ _ _; rw [show Inv.add L 2 3 = false from f3]; exact H)⟩
    ·intro L A w up hun hd F H
     have t2 : L 2 = true := hd 2 rfl
     have f3 : L 3 = false := hun
     rw [t2, f3] at H
     refine step_on rfl (d_store (i := 4) (xs := L148) (us := L148) sz_79 F H rfl rfl rfl rfl rfl rfl rfl (Nat.le_of_ble_eq_true rfl) rfl) ?_
     intro xv w' H
     exact ⟨Cn, (by show Sx.Own _ _ _ _ _; rw [show Inv.add L 3 2 = true from t2]; exact H)⟩
    ·exact Sa
   ·intro L A w hL F H
    have t2 : L 2 = true := hL 2 rfl
    have t3 : L 3 = true := hL 3 rfl
    rw [t2, t3] at H
    have H := H.pickN 7 0 [0, 1, 2, 3, 4, 5, 6] []
    have F := F.tq [(2, pT g2 0), (3, pT g3 0), (4, iI 0)] rfl
    refine hK9 _ _ (Wr (ret3 F Tryz.results97 (res_row (i := 5) (xs := L149) rw_79 F H rfl rfl rfl rfl) (res_row (i := 4) (xs := L148) rw_79 F H rfl rfl rfl rfl) (res_tmp F rfl) ?_))
    exact ⟨_, rfl, rfl, H.pickN 7 0 [] []⟩
set_option maxRecDepth 100000 in
theorem cx81   (H : Sx.Own w0 w (bs) (rs) K) : Cq 119 #[L147] w fun x w' => x = bT ∧ Sx.Own w0 w' (bs) (rs) K := by
 refine En Tryz.func119 Tryz.ntmps119 fun A F => ?_
 refine Sp fun _ kk => Zb F (d_box F H rfl rfl L148 rfl) fun g1 A w F H => ?_
 refine Av F fun A F => ?_
 refine Nl kk (Sp fun _ kk => ?_)
 iterate 4 (refine Av F ?_; intro A F)
 refine Zw F (Dc (v := iI (-1)) if_16 F H (Calls.val (v := iI (Wd.cmp 4611686018427387904#128 9223372036854775808#128)) (wcmp_c 4611686018427387904#128 9223372036854775808#128 _) rfl (by kernel_rfl))) fun A w F H => ?_
 iterate 2 (refine Av F ?_; intro A F)
 refine Nl kk (Wr (ret1 F Tryz.results119 (res_tmp F rfl) ?_))
 exact ⟨_, rfl, rfl, H.pickN 1 0 [] []⟩
set_option maxRecDepth 100000 in
abbrev L151 : List Value := [iI 1, iU 0, iU 0, iU 4611686018427387904, iU 0, iU 0, iU 0, iU 0, iU 0, iU 0, iU 0, iU 0, nS, iI 1, iU 4611686018427387904, iU 0, iU 0, iU 0, iU 0, iU 0, iU 0, iU 0, iU 0, iU 0, iU 0, iW 0, iW 0, bF]
abbrev L152 : Value := .agg #[iI 1, iU 4611686018427387904, iU 0, iU 0, iU 0, iU 0, iU 0, iU 0, iU 0, iU 0, iU 0, iU 0, iW 0, iW 0, bF]
theorem cx82   (H : Sx.Own w0 w (bs) (rs) K) : Cq 138 #[iI 1, iU 0, L145] w fun x w' => ∃ g3 : Nat, x = .tuple #[pT g3 0, iI 0] ∧ Sx.Own w0 w' ((true, g3, L151) :: bs) (rs) K := by
 refine En Tryz.func138 Tryz.ntmps138 fun A F => ?_
 refine Sp fun _ kk => Zb F (d_box F H rfl rfl [iU 0, iU 4611686018427387904] rfl) fun g1 A w F H => ?_
 iterate 2 (refine Av F ?_; intro A F)
 refine Nl kk (Sp fun _ kk => ?_)
 iterate 2 (refine Av F ?_; intro A F)
 refine Zx F (Do if_81 F (cx59 H)) ?_
 rintro _ w ⟨rfl, H⟩ A F
 iterate 3 (refine Av F ?_; intro A F)
 refine Zb F (d_alloc H rfl L135 zero_35) fun g2 A w F H => ?_
 refine Zs 0 L138 sz_35 F H fun A w F H => ?_
 refine Av F fun A F => ?_
 refine Nl kk (Sx.seq fun K3 hK3 => wp_block (Sp fun _ kk => ?_))
 iterate 3 (refine Av F ?_; intro A F)
 refine Nl kk (condF F rfl (Sx.seq fun K5 hK5 => ?_))
 have F := F.tq [(0, iI 1), (1, iU 0), (5, pT g1 0), (6, nP), (7, iI 0), (8, pT g2 0), (9, iI 0)] rfl
 refine Dn F [some (L145), some (iI 1), some (L126), some (iI (-1)), some (bF), some (bF)] (fun L A w => Sx.Own w0 w ((true, g2, L138) :: (true, g1, [iU 0, iU 4611686018427387904]) :: bs) (rs) K) (H.drew.padG [] [] rfl rfl) ?_ ?_
 ·refine ⟨?_, ?_, ?_, ?_, ?_, ?_, trivial⟩
  ·exact SV (fun _ _ _ F H => Lr 1 [iU 0, iU 4611686018427387904] rw_26 F H)
  ·exact Sa
  ·intro L A w up hun hd F H
   refine step_on rfl (Dc (v := L126) if_17 F H (Calls.val (v := L95) (glimit1_c _) rfl (by kernel_rfl))) ?_
   rintro xv w' ⟨hx, H⟩
   exact ⟨Cs hx, H⟩
  ·intro L A w up hun hd F H
   refine step_on rfl (Dc (v := iI (-1)) if_16 F H (Calls.val (v := iI (Wd.cmp 4611686018427387904#128 9223372036854775808#128)) (wcmp_c 4611686018427387904#128 9223372036854775808#128 _) rfl (by kernel_rfl))) ?_
   rintro xv w' ⟨hx, H⟩
   exact ⟨Cs hx, H⟩
  ·exact Sa
  ·exact Sa
 ·intro L A w hL F H
  have H := H.pickN 2 0 [0, 1] []
  have F := F.tq [(0, iI 1), (1, iU 0), (5, pT g1 0), (6, nP), (7, iI 0), (8, pT g2 0), (9, iI 0), (20, bF)] rfl
  refine hK5 _ _ (condF F rfl (wp_skip (hK3 _ _ (Sp fun _ kk => ?_))))
  iterate 2 (refine Av F ?_; intro A F)
  refine Zw F (Dc (v := .tuple #[L152, iI 0]) if_6 F H (Calls.val (v := .tuple #[.agg #[iI 1, uN (Mx.jump 0#64 (Wd.lo 4611686018427387904#128)), iU 0, iU 0, iU 0, iU 0, uN (Wd.hi 0#128), uN (Wd.lo 0#128), uN (Wd.hi 0#128), uN (Wd.lo 0#128), uN (Wd.hi 0#128), uN (Wd.lo 0#128), iW 0, iW 0, bF], iI 0]) (gjmp1_ok 0#64 4611686018427387904#128 _) rfl (by kernel_rfl))) fun A w F H => ?_
  iterate 3 (refine Av F ?_; intro A F)
  refine Zs 0 [iI 1, iU 4611686018427387904, iU 0, iU 0, iU 0, iU 0, iU 0, iU 0, iU 0, iU 0, iU 0, iU 0, iW 0, iW 0, bF] sz_35 F H fun A w F H => ?_
  refine Av F fun A F => ?_
  refine Nl kk (Sp fun _ kk => ?_)
  iterate 4 (refine Av F ?_; intro A F)
  refine Zv F (d_build (qs := #[(0, iI 1), (1, iU 0), (2, L145), (5, L152)]) (v := .agg #[iI 1, iU 0, iU 0, iU 4611686018427387904, iU 0, iU 0, iU 0, iU 0, iU 0, iU 0, iU 0, iU 0, nS, iI 1, iU 4611686018427387904, iU 0, iU 0, iU 0, iU 0, iU 0, iU 0, iU 0, iU 0, iU 0, iU 0, iW 0, iW 0, bF]) F rfl rfl (by kernel_rfl)) fun A F => ?_
  refine Zb F (d_box F H rfl rfl L151 rfl) fun g3 A w F H => ?_
  iterate 3 (refine Av F ?_; intro A F)
  refine Nl kk (Wr (ret2 F Tryz.results138 (res_tmp F rfl) (res_tmp F rfl) ?_))
  exact ⟨_, rfl, g3, rfl, H.pickN 3 0 [0] []⟩
set_option maxRecDepth 100000 in
theorem cx83   (H : Sx.Own w0 w (bs) (rs) K) : Cq 98 #[iI 1, iU 0, L147] w fun x w' => ∃ g4 g3 : Nat, x = .tuple #[pT g4 0, iI 0] ∧ Sx.Own w0 w' ((true, g4, (L140 g3)) :: (true, g3, L151) :: bs) (rs) K := by
 refine En Tryz.func98 Tryz.ntmps98 fun A F => ?_
 refine Sp fun _ kk => Zb F (d_box F H rfl rfl L148 rfl) fun g1 A w F H => ?_
 iterate 2 (refine Av F ?_; intro A F)
 refine Nl kk (Sp fun _ kk => Av F fun A F => ?_)
 refine Zw F (Dc (v := L126) if_17 F H (Calls.val (v := L95) (glimit1_c _) rfl (by kernel_rfl))) fun A w F H => ?_
 refine Zb F (d_alloc H rfl [iU 0, iU 0] zero_26) fun g2 A w F H => ?_
 refine Zs 0 [iU 0, iU 9223372036854775808] sz_26 F H fun A w F H => ?_
 refine Nl kk (Sx.seq fun K3 hK3 => wp_block (Sp fun _ kk => Av F fun A F => ?_))
 refine Zv F (d_build (qs := #[]) (v := .agg #[iU 0, iU 0]) F rfl rfl (by kernel_rfl)) fun A F => ?_
 refine Zn bF F fun A F => ?_
 refine Av F fun A F => ?_
 refine Nl kk (condF F rfl (Sp fun _ kk => Av F fun A F => ?_))
 refine Zx F (Do if_119 F (cx81 H)) ?_
 rintro _ w ⟨rfl, H⟩ A F
 refine Zv F (d_un (v := bF) F rfl rfl rfl) fun A F => ?_
 refine Av F fun A F => ?_
 refine Nl kk (condF F rfl (Sp fun _ kk => ?_))
 iterate 3 (refine Av F ?_; intro A F)
 refine Zw F (Dc (v := iI 0) if_16 F H (Calls.val (v := iI (Wd.cmp 9223372036854775808#128 9223372036854775808#128)) (wcmp_c 9223372036854775808#128 9223372036854775808#128 _) rfl (by kernel_rfl))) fun A w F H => ?_
 iterate 2 (refine Av F ?_; intro A F)
 refine Nl kk (condF F rfl (wp_skip (hK3 _ _ (Sp fun _ kk => ?_))))
 iterate 4 (refine Av F ?_; intro A F)
 refine Zx F (Do if_138 F (cx82 H)) ?_
 rintro _ w ⟨g3, rfl, H⟩ A F
 iterate 5 (refine Av F ?_; intro A F)
 refine Nl kk (Sx.seq fun K8 hK8 => Sp fun _ kk => ?_)
 iterate 2 (refine Av F ?_; intro A F)
 refine Nl kk (condF F rfl (wp_skip (hK8 _ _ (Sp fun _ kk => ?_))))
 iterate 3 (refine Av F ?_; intro A F)
 refine Zv F (d_build (qs := #[(0, pT g3 0), (1, L126)]) (v := .agg #[pT g3 0, iU 0, iU 9223372036854775808]) F rfl rfl (by kernel_rfl)) fun A F => ?_
 refine Zb F (d_box F H rfl rfl (L140 g3) rfl) fun g4 A w F H => ?_
 iterate 2 (refine Av F ?_; intro A F)
 refine Nl kk (Wr (ret2 F Tryz.results98 (res_tmp F rfl) (res_tmp F rfl) ?_))
 exact ⟨_, rfl, g4, g3, rfl, H.pickN 4 0 [0, 1] []⟩
set_option maxRecDepth 100000 in
abbrev L153 (x0 : Nat) : List Value := [pT x0 0, iU 0, iU 4611686018427387904]
theorem cx84 {g1 g2 : Nat}  (H : Sx.Own w0 w ((true, g1, (L140 g2)) :: (true, g2, L139) :: bs) (rs) K) : Cq 99 #[pT g1 0, L145] w fun x w' => x = iI 0 ∧ Sx.Own w0 w' ((true, g1, (L153 g2)) :: (true, g2, L139) :: bs) (rs) K := by
 refine En Tryz.func99 Tryz.ntmps99 fun A F => ?_
 refine Sp fun _ kk => Zb F (d_box F H rfl rfl [iU 0, iU 4611686018427387904] rfl) fun g3 A w F H => ?_
 refine Av F fun A F => ?_
 refine Nl kk (Sx.seq fun K2 hK2 => Sx.seq fun K3 hK3 => ?_)
 have F := F.tq [(0, pT g1 0), (3, pT g3 0), (4, iI 0)] rfl
 refine Dn F [some (L145), some (pT g1 0), some (pT g1 0), some (pT g1 0), some (pT g2 0), some (.agg #[iU 0, iU 0]), some (iI 1), some (bF), some (bF), some (L145), some (pT g1 0), some (pT g1 0), some (pT g1 1), some (L126), some (iI (-1)), some (bF), some (bF)] (fun L A w => Sx.Own w0 w ((true, g3, [iU 0, iU 4611686018427387904]) :: (true, g1, (L140 g2)) :: (true, g2, L139) :: bs) (rs) K) (H.drew.padG [] [] rfl rfl) ?_ ?_
 ·refine ⟨?_, ?_, ?_, ?_, ?_, ?_, ?_, ?_, ?_, ?_, ?_, ?_, ?_, ?_, ?_, ?_, ?_, trivial⟩
  ·exact SV (fun _ _ _ F H => Lr 0 [iU 0, iU 4611686018427387904] rw_26 F H)
  ·exact Sa
  ·exact Sa
  ·exact Sa
  ·exact SV (fun _ _ _ F H => Ld 1 one_220 F H)
  ·intro L A w up hun hd F H
   have H : Sx.Own w0 w ((true, g3, [iU 0, iU 4611686018427387904]) :: (true, g1, (L140 g2)) :: (true, g2, L139) :: bs) (rs) K := H
   have H := H.pickN 3 0 [2, 0, 1] []
   refine step_on rfl (Do if_124 F (cx76 H)) ?_
   rintro xv w' ⟨hx, H⟩
   have H := H.pickN 3 0 [1, 2, 0] []
   exact ⟨Cs hx, H⟩
  ·intro L A w up hun hd F H
   refine step_on rfl (Dc (v := iI 1) if_16 F H (Calls.val (v := iI (Wd.cmp 4611686018427387904#128 0#128)) (wcmp_c 4611686018427387904#128 0#128 _) rfl (by kernel_rfl))) ?_
   rintro xv w' ⟨hx, H⟩
   exact ⟨Cs hx, H⟩
  ·exact Sa
  ·exact Sa
  ·exact SVg (fun _ _ _ F H => Lr 0 [iU 0, iU 4611686018427387904] rw_26 F H)
  ·exact SVg (fun _ _ _ F _ => d_move F (Or.inl rfl) rfl)
  ·exact SVg (fun _ _ _ F _ => d_nil F rfl rfl)
  ·exact SVg (fun _ _ _ F _ => Fd F (fa_222_1.default.h _ _ _))
  ·exact SVg (fun _ _ _ F H => Lr 1 [iU 0, iU 9223372036854775808] rw_26 F H)
  ·intro L A w up hun hd F H
   refine step_ong rfl (guard_known (d := 13) (b := false) F rfl rfl) rfl (Dc (v := iI (-1)) if_16 F H (Calls.val (v := iI (Wd.cmp 4611686018427387904#128 9223372036854775808#128)) (wcmp_c 4611686018427387904#128 9223372036854775808#128 _) rfl (by kernel_rfl))) ?_
   rintro xv w' ⟨hx, H⟩
   exact ⟨Cs hx, H⟩
  ·exact SVg (fun _ _ _ F _ => Bn bF F rfl rfl rfl (i_gt (by decide)))
  ·exact Sa
 ·intro L A w hL F H
  have H := H.pickN 3 0 [0, 1, 2] []
  have F := F.tq [(0, pT g1 0), (3, pT g3 0), (4, iI 0), (21, bF)] rfl
  refine hK3 _ _ (condF F rfl (wp_skip (hK2 _ _ (Sp fun _ kk => ?_))))
  iterate 4 (refine Av F ?_; intro A F)
  refine Zs 1 (L153 g2) sz_26 F H fun A w F H => ?_
  refine Nl kk (Sp fun _ kk => Av F fun A F => ?_)
  refine Nl kk (Wr (ret1 F Tryz.results99 (res_tmp F rfl) ?_))
  exact ⟨_, rfl, rfl, H.pickN 3 0 [1, 2] []⟩
end
end Go.Proofs.YteecadoakmdibaaGreat
