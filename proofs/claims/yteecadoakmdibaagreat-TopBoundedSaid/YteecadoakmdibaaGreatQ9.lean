/- What the proof of TopBounded leans on: part 9. -/
import Derived.Test.YteecadoakmdibaaGreatQ2
import Derived.Test.YteecadoakmdibaaGreatQ7
import Derived.Test.YteecadoakmdibaaGreatQ8
set_option maxRecDepth 100000
set_option maxHeartbeats 4000000
namespace Go.Proofs.YteecadoakmdibaaGreat
open Go Go.RowKit
section
open Sx
variable {w0 w : World} {bs : List Sx.Bx} {rs : List Sx.Rx} {K : Nat → Option Obj} {g1 g2 g3 g4 g5 g6 g7 g8 g9 g10 g11 g12 g13 g14 g15 g16 g17 g18 g19 g20 g21 g22 g23 g24 c1 c2 c3 c4 c5 c6 c7 c8 c9 : Nat} {v1 v2 v3 v4 v5 v6 v7 v8 v9 : Value} {n b : BitVec 64} {at' : BitVec 128} {kd lf : BitVec 8} {G : Bd.Gen}
namespace Bd
theorem less0 (a : BitVec 128) : Wd.less a 0#128 = false := decide_eq_false (by simp)
theorem over0 (a : BitVec 128) : Wd.over 0#128 a = false := decide_eq_false (by have := a.isLt; simp; omega)
end Bd
abbrev L117 (x0 : Bd.Gen) (x1 : BitVec 64) : List Value := [iI x0.k, uN x1, iU 0, iU 0, iU 0, iU 0, iU 0, iU 0, iU 0, iU 0, iU 0, iU 0, nS, iI ((x0.seed x1).k), iU ((x0.seed x1).m.toNat), iU ((x0.seed x1).x.a.toNat), iU ((x0.seed x1).x.b.toNat), iU ((x0.seed x1).x.c.toNat), iU ((x0.seed x1).x.d.toNat), uH ((x0.seed x1).s), uL ((x0.seed x1).s), uH ((x0.seed x1).i), uL ((x0.seed x1).i), uH ((x0.seed x1).c), uL ((x0.seed x1).c), iW ((x0.seed x1).k0.toNat), iW ((x0.seed x1).k1.toNat), .bool ((x0.seed x1).b)]
abbrev L118 (x0 : Bd.Gen) : Value := .tuple #[.agg #[uH x0.lim, uL x0.lim], bF]
theorem cx4001 (H : Sx.Own w0 w (Bt g1 (L117 G n) :: bs) rs K) : Cr 159 #[pT g1 0] w0 w (.agg #[uH G.lim, uL G.lim]) (Bt g1 (L117 G n) :: bs) rs K := by
 refine En Tryz.func159 Tryz.ntmps159 fun A F => ?_
 refine Sp fun _ kk => Zb F (d_alloc H rfl [iU 0, iU 0] zero_26) fun g2 A w F H => ?_
 refine Nl kk (Sx.seq fun K2 hK2 => ?_)
 have F := F.tq [(0, pT g1 0), (2, pT g2 0)] rfl
 refine Dn F [some (pT g1 0), some (pT g1 0), some (pT g1 0), some (iI G.k), some (.agg #[uH G.lim, uL G.lim]), some (pT g1 0), some (pT g1 0), some (pT g1 2), some (.agg #[iU 0, iU 0]), some (L118 G), some (L118 G), some (.agg #[uH G.lim, uL G.lim]), some (bF), none, none, some (bF)] (fun L A w => ∃ g3 : Nat, (L 13 = true → A.eval (.tmp 3) = pT g3 0) ∧ Sx.Own w0 w ((L 13, g3, (cond (L 14) [uH G.lim, uL G.lim] [iU 0, iU 0])) :: Bt g2 [iU 0, iU 0] :: Bt g1 (L117 G n) :: bs) rs K) ⟨0, (fun h => by cases h), H.drew.padG [(false, 0, [iU 0, iU 0])] [] rfl rfl⟩ ?_ ?_
 ·refine ⟨?_, ?_, ?_, ?_, ?_, ?_, ?_, ?_, ?_, ?_, ?_, ?_, ?_, ?_, ?_, ?_, trivial⟩
  ·exact Sa (hS := (fun _ _ _ _ ⟨g3, p13, H⟩ => ⟨g3, Pk p13, H⟩))
  ·exact Sa (hS := (fun _ _ _ _ ⟨g3, p13, H⟩ => ⟨g3, Pk p13, H⟩))
  ·exact Sa (hS := (fun _ _ _ _ ⟨g3, p13, H⟩ => ⟨g3, Pk p13, H⟩))
  ·exact SV (fun _ _ _ F ⟨g3, p13, H⟩ => Ld 2 one_3 F H) (fun _ _ _ _ ⟨g3, p13, H⟩ => ⟨g3, Pk p13, H⟩)
  ·intro L A w up hun hd F ⟨g3, p13, H⟩
   have f14 : L 14 = false := up 14 4 rfl hun
   rw [f14] at H
   refine step_on rfl (Dc if_17 F H (G.limit_c _)) ?_
   rintro xv w' ⟨hx, H⟩
   exact ⟨Cs hx, ⟨g3, Pk p13, (by show Sx.Own _ _ _ _ _; rw [show Inv.add L 4 14 = false from f14]; exact H)⟩⟩
  ·exact Sa (hS := (fun _ _ _ _ ⟨g3, p13, H⟩ => ⟨g3, Pk p13, H⟩))
  ·exact Sa (hS := (fun _ _ _ _ ⟨g3, p13, H⟩ => ⟨g3, Pk p13, H⟩))
  ·exact Sa (hS := (fun _ _ _ _ ⟨g3, p13, H⟩ => ⟨g3, Pk p13, H⟩))
  ·exact SV (fun _ _ _ F ⟨g3, p13, H⟩ => Lr 2 [iU 0, iU 0] rw_26 F H) (fun _ _ _ _ ⟨g3, p13, H⟩ => ⟨g3, Pk p13, H⟩)
  ·intro L A w up hun hd F ⟨g3, p13, H⟩
   have f14 : L 14 = false := up 14 9 rfl hun
   rw [f14] at H
   refine step_on rfl (Dc (v := (L118 G)) if_155 F H (Calls.val (v' := (L118 G)) (wsub_c G.lim 0#128 _) rfl (by rw [BitVec.sub_zero, Bd.less0]))) ?_
   rintro xv w' ⟨hx, H⟩
   exact ⟨Cs hx, ⟨g3, Pk p13, (by show Sx.Own _ _ _ _ _; rw [show Inv.add L 9 14 = false from f14]; exact H)⟩⟩
  ·exact Sa (hS := (fun _ _ _ _ ⟨g3, p13, H⟩ => ⟨g3, Pk p13, H⟩))
  ·exact Sa (hS := (fun _ _ _ _ ⟨g3, p13, H⟩ => ⟨g3, Pk p13, H⟩))
  ·exact Sa (hS := (fun _ _ _ _ ⟨g3, p13, H⟩ => ⟨g3, Pk p13, H⟩))
  ·intro L A w up hun hd F ⟨g3, p13, H⟩
   have f13 : L 13 = false := hun
   have f14 : L 14 = false := up 14 13 rfl hun
   rw [f13, f14] at H
   refine step_on rfl (d_alloc H rfl [iU 0, iU 0] zero_26) ?_
   rintro xv w' ⟨g4, hx, H⟩
   have H := H.pickN 4 0 [0, 2, 3] []
   exact ⟨Cn, ⟨g4, (fun _ => (Sx.put_same F (by decide) _).trans hx), (by show Sx.Own _ _ _ _ _; rw [show Inv.add L 13 14 = false from f14]; exact H)⟩⟩
  ·intro L A w up hun hd F ⟨g3, p13, H⟩
   have t13 : L 13 = true := hd 13 rfl
   have f14 : L 14 = false := hun
   rw [t13, f14] at H
   have F := Fr.add F (p13 t13)
   refine step_on rfl (d_store (i := 0) (xs := [uH G.lim, uL G.lim]) (us := [uH G.lim, uL G.lim]) sz_26 F H rfl rfl rfl rfl rfl rfl rfl (Nat.le_of_ble_eq_true rfl) rfl) ?_
   intro xv w' H
   exact ⟨Cn, ⟨g3, p13, (by show Sx.Own _ _ _ _ _; rw [show Inv.add L 14 13 = true from t13]; exact H)⟩⟩
  ·intro L A w up hun hd F ⟨g3, p13, H⟩
   have t13 : L 13 = true := hd 13 rfl
   have t14 : L 14 = true := hd 14 rfl
   have Hj := H; rw [t13, t14] at Hj
   have F := Fr.add F (p13 t13)
   refine step_on rfl (d_move F (Or.inr rfl) rfl) ?_
   rintro xv w' ⟨hx, rfl⟩
   exact ⟨Cs hx, ⟨g3, Pk p13, H⟩⟩
 ·intro L A w hL F ⟨g3, p13, H⟩
  have t13 : L 13 = true := hL 13 rfl
  have t14 : L 14 = true := hL 14 rfl
  rw [t13, t14] at H
  have F := Fr.add F (p13 t13)
  have H := H.pickN 3 0 [0, 1, 2] []
  have F := F.tq [(2, pT g2 0), (3, pT g3 0)] rfl
  refine hK2 _ _ (Sp fun _ kk => Av F fun A F => ?_)
  refine Zs 1 [uH G.lim, uL G.lim] sz_26 F H fun A w F H => ?_
  refine Nl kk (Wr (ret1 F Tryz.results159 (res_row (i := 1) (xs := [uH G.lim, uL G.lim]) rw_26 F H rfl rfl rfl rfl) ?_))
  exact ⟨_, rfl, rfl, H.pickN 3 0 [2] []⟩
abbrev L119 (x0 x1 : Nat) : List (Nat × Value) := [(0, pT x0 0), (3, pT x1 0), (4, iI 0)]
theorem cx4002 (H : Sx.Own w0 w (Bt g1 (L117 G n) :: bs) rs K) : Cr 142 #[pT g1 0, L2] w0 w (iI 0) (Bt g1 (L117 G n) :: bs) rs K := by
 refine En Tryz.func142 Tryz.ntmps142 fun A F => ?_
 refine Sp fun _ kk => Zb F (d_box F H rfl rfl L1 rfl) fun g2 A w F H => ?_
 refine Av F fun A F => ?_
 refine Nl kk (Sx.seq fun K2 hK2 => Sx.seq fun K3 hK3 => ?_)
 have F := F.tq (L119 g1 g2) rfl
 refine Dn F [some (L2), some (pT g1 0), some (.agg #[uH G.lim, uL G.lim]), some (iI (Wd.cmp 0#128 G.lim)), some (bF)] (fun L A w => Sx.Own w0 w (Bt g2 L1 :: Bt g1 (L117 G n) :: bs) rs K) (H.drew.padG [] [] rfl rfl) ?_ ?_
 ·refine ⟨?_, ?_, ?_, ?_, ?_, trivial⟩
  ·exact SV (fun _ _ _ F H => Lr 0 L1 rw_26 F H)
  ·exact Sa
  ·intro L A w up hun hd F H
   have H : Sx.Own w0 w (Bt g2 L1 :: Bt g1 (L117 G n) :: bs) rs K := H
   have H := H.pickN 2 0 [1, 0] []
   refine step_on rfl (Do if_159 F (cx4001 H)) ?_
   rintro xv w' ⟨hx, H⟩
   have H := H.pickN 2 0 [1, 0] []
   exact ⟨Cs hx, H⟩
  ·intro L A w up hun hd F H
   refine step_on rfl (Dc if_16 F H (wcmp_c 0#128 G.lim _)) ?_
   rintro xv w' ⟨hx, H⟩
   exact ⟨Cs hx, H⟩
  ·exact SV (fun _ _ _ F _ => Bn bF F rfl rfl rfl (i_gt (decide_eq_false fun h => absurd ((Bd.cmp_gt0 _ _).1 h) (Nat.not_lt.2 (Nat.zero_le _)))))
 ·intro L A w hL F H
  have H := H.pickN 2 0 [0, 1] []
  have F := F.tq [(0, pT g1 0), (3, pT g2 0), (4, iI 0), (12, bF)] rfl
  refine hK3 _ _ (condF F rfl (wp_skip (hK2 _ _ (Sx.seq fun K4 hK4 => ?_))))
  have F := F.tq (L119 g1 g2) rfl
  refine Dn F [some (pT g1 0), some (pT g1 0), some (pT g1 0), some (pT g1 2), some (.agg #[iU 0, iU 0]), some (L2), some (.tuple #[.agg #[iU 0, iU 0], bF]), some (.tuple #[.agg #[iU 0, iU 0], bF]), some (.agg #[iU 0, iU 0]), some (bF), some (pT g1 0), some (pT g1 2), none] (fun L A w => Sx.Own w0 w (Bt g2 L1 :: Bt g1 (L117 G n) :: bs) rs K) (H.drew.padG [] [] rfl rfl) ?_ ?_
  ·refine ⟨?_, ?_, ?_, ?_, ?_, ?_, ?_, ?_, ?_, ?_, ?_, ?_, ?_, trivial⟩
   ·exact Sa
   ·exact Sa
   ·exact Sa
   ·exact Sa
   ·exact SV (fun _ _ _ F H => Lr 1 [iU 0, iU 0] rw_26 F H)
   ·exact SV (fun _ _ _ F H => Lr 0 L1 rw_26 F H)
   ·intro L A w up hun hd F H
    refine step_on rfl (Dc (v := .tuple #[.agg #[iU 0, iU 0], bF]) if_14 F H (Calls.val (v := .tuple #[.agg #[uH (0#128 + 0#128), uL (0#128 + 0#128)], .bool (Wd.over 0#128 0#128)]) (wadd_c 0#128 0#128 _) rfl (by kernel_rfl))) ?_
    rintro xv w' ⟨hx, H⟩
    exact ⟨Cs hx, H⟩
   ·exact Sa
   ·exact Sa
   ·exact Sa
   ·exact Sa
   ·exact Sa
   ·intro L A w up hun hd F H
    refine step_on rfl (d_store (i := 1) (xs := [iU 0, iU 0]) (us := (L117 G n)) sz_26 F H rfl rfl rfl rfl rfl rfl rfl (Nat.le_of_ble_eq_true rfl) rfl) ?_
    intro xv w' H
    exact ⟨Cn, H⟩
  ·intro L A w hL F H
   have H := H.pickN 2 0 [0, 1] []
   have F := F.tq (L119 g1 g2) rfl
   refine hK4 _ _ (Sp fun _ kk => ?_)
   iterate 4 (refine Av F ?_; intro A F)
   refine Zv F (d_lenS el_65 F rfl rfl) fun A F => ?_
   refine Zv F (d_conv (v := iU 0) F rfl rfl (by kernel_rfl)) fun A F => ?_
   refine Zw F (d_call (vs := [iU 0]) (v := .agg #[iU 0, iU 0]) if_15 F H rfl rfl (Calls.val (v := L2) (Calls.val (wofV_c 0#64 _) (by kernel_rfl) (by kernel_rfl)) rfl (by kernel_rfl))) fun A w F H => ?_
   refine Zb F (d_alloc H rfl [iU 0, iU 0] zero_26) fun g3 A w F H => ?_
   refine Zs 0 [iU 0, iU 0] sz_26 F H fun A w F H => ?_
   refine Nl kk (Sx.seq fun K6 hK6 => Sp fun _ kk => ?_)
   iterate 2 (refine Av F ?_; intro A F)
   refine Zw F (Dc (v := iI 0) if_16 F H (Calls.val (v := iI (Wd.cmp 0#128 0#128)) (wcmp_c 0#128 0#128 _) rfl (by kernel_rfl))) fun A w F H => ?_
   refine Av F fun A F => ?_
   refine Nl kk (condT F rfl (Sx.seq fun K8 hK8 => ?_))
   have F := F.tq [(0, pT g1 0), (3, pT g2 0), (4, iI 0), (5, pT g3 0)] rfl
   refine Dn F [some (pT g1 0), some (pT g1 0), some (pT g1 0), some (pT g1 12), some (nS), some (pT g2 1), some (uN (Wd.lo 0#128)), some (nS), some (pT g1 0), some (pT g1 12), none] (fun L A w => Sx.Own w0 w (Bt g3 [iU 0, iU 0] :: Bt g2 L1 :: Bt g1 (L117 G n) :: bs) rs K) (H.drew.padG [] [] rfl rfl) ?_ ?_
   ·refine ⟨?_, ?_, ?_, ?_, ?_, ?_, ?_, ?_, ?_, ?_, ?_, trivial⟩
    ·exact Sa
    ·exact Sa
    ·exact Sa
    ·exact Sa
    ·exact SV (fun _ _ _ F H => Ld 2 one_65 F H)
    ·exact Sa
    ·exact SV (fun _ _ _ F H => Ld 1 one_22 F H)
    ·exact SV (fun _ _ _ F _ => d_sliceG (v := nS) (lv := some (uN (Wd.lo 0#128))) (hv := none) (mv := none) F rfl rfl rfl rfl rfl (by kernel_rfl))
    ·exact Sa
    ·exact Sa
    ·intro L A w up hun hd F H
     refine step_on rfl (d_store (i := 2) (xs := [nS]) (us := (L117 G n)) sz_65 F H rfl rfl rfl rfl rfl rfl rfl (Nat.le_of_ble_eq_true rfl) rfl) ?_
     intro xv w' H
     exact ⟨Cn, H⟩
   ·intro L A w hL F H
    have H := H.pickN 3 0 [0, 1, 2] []
    have F := F.tq [(0, pT g1 0), (3, pT g2 0), (4, iI 0), (5, pT g3 0)] rfl
    refine hK8 _ _ (Sp fun _ kk => Av F fun A F => ?_)
    refine Nl kk (Wr (ret1 F Tryz.results142 (res_tmp F rfl) ?_))
    exact ⟨_, rfl, rfl, H.pickN 3 0 [2] []⟩
abbrev L120 (x0 : Bd.Gen) (x1 : BitVec 64) (x2 : BitVec 128) : List Value := [iI x0.k, uN x1, uH x2, uL x2, iU 0, iU 0, iU 0, iU 0, iU 0, iU 0, iU 0, iU 0, nS, iI ((Bd.org x0 x1 x2).k), iU ((Bd.org x0 x1 x2).m.toNat), iU ((Bd.org x0 x1 x2).x.a.toNat), iU ((Bd.org x0 x1 x2).x.b.toNat), iU ((Bd.org x0 x1 x2).x.c.toNat), iU ((Bd.org x0 x1 x2).x.d.toNat), uH ((Bd.org x0 x1 x2).s), uL ((Bd.org x0 x1 x2).s), uH ((Bd.org x0 x1 x2).i), uL ((Bd.org x0 x1 x2).i), uH ((Bd.org x0 x1 x2).c), uL ((Bd.org x0 x1 x2).c), iW ((Bd.org x0 x1 x2).k0.toNat), iW ((Bd.org x0 x1 x2).k1.toNat), .bool ((Bd.org x0 x1 x2).b)]
abbrev L121 (x0 : BitVec 128) : Value := .tuple #[.agg #[uH x0, uL x0], bF]
abbrev L122 (x0 : Bd.Gen) (x1 : BitVec 64) (x2 : BitVec 128) : List Value := [iI x0.k, uN x1, uH x2, uL x2, iU 0, iU 0, iU 0, iU 0, iU 0, iU 0, iU 0, iU 0, nS, iI ((x0.seed x1).k), iU ((x0.seed x1).m.toNat), iU ((x0.seed x1).x.a.toNat), iU ((x0.seed x1).x.b.toNat), iU ((x0.seed x1).x.c.toNat), iU ((x0.seed x1).x.d.toNat), uH ((x0.seed x1).s), uL ((x0.seed x1).s), uH ((x0.seed x1).i), uL ((x0.seed x1).i), uH ((x0.seed x1).c), uL ((x0.seed x1).c), iW ((x0.seed x1).k0.toNat), iW ((x0.seed x1).k1.toNat), .bool ((x0.seed x1).b)]
abbrev L123 (x0 : Bd.Gen) (x1 : BitVec 64) : Value := .agg #[iI ((x0.seed x1).k), iU ((x0.seed x1).m.toNat), iU ((x0.seed x1).x.a.toNat), iU ((x0.seed x1).x.b.toNat), iU ((x0.seed x1).x.c.toNat), iU ((x0.seed x1).x.d.toNat), uH ((x0.seed x1).s), uL ((x0.seed x1).s), uH ((x0.seed x1).i), uL ((x0.seed x1).i), uH ((x0.seed x1).c), uL ((x0.seed x1).c), iW ((x0.seed x1).k0.toNat), iW ((x0.seed x1).k1.toNat), .bool ((x0.seed x1).b)]
abbrev L124 (x0 : Bd.Gen) (x1 : BitVec 64) (x2 : BitVec 128) : Value := .agg #[iI ((Bd.org x0 x1 x2).k), iU ((Bd.org x0 x1 x2).m.toNat), iU ((Bd.org x0 x1 x2).x.a.toNat), iU ((Bd.org x0 x1 x2).x.b.toNat), iU ((Bd.org x0 x1 x2).x.c.toNat), iU ((Bd.org x0 x1 x2).x.d.toNat), uH ((Bd.org x0 x1 x2).s), uL ((Bd.org x0 x1 x2).s), uH ((Bd.org x0 x1 x2).i), uL ((Bd.org x0 x1 x2).i), uH ((Bd.org x0 x1 x2).c), uL ((Bd.org x0 x1 x2).c), iW ((Bd.org x0 x1 x2).k0.toNat), iW ((Bd.org x0 x1 x2).k1.toNat), .bool ((Bd.org x0 x1 x2).b)]
abbrev L125 (x0 : Bd.Gen) (x1 : BitVec 64) (x2 : BitVec 128) : Value := .tuple #[.agg #[iI ((Bd.org x0 x1 x2).k), iU ((Bd.org x0 x1 x2).m.toNat), iU ((Bd.org x0 x1 x2).x.a.toNat), iU ((Bd.org x0 x1 x2).x.b.toNat), iU ((Bd.org x0 x1 x2).x.c.toNat), iU ((Bd.org x0 x1 x2).x.d.toNat), uH ((Bd.org x0 x1 x2).s), uL ((Bd.org x0 x1 x2).s), uH ((Bd.org x0 x1 x2).i), uL ((Bd.org x0 x1 x2).i), uH ((Bd.org x0 x1 x2).c), uL ((Bd.org x0 x1 x2).c), iW ((Bd.org x0 x1 x2).k0.toNat), iW ((Bd.org x0 x1 x2).k1.toNat), .bool ((Bd.org x0 x1 x2).b)], iI 0]
abbrev L126 (x0 : Bd.Gen) (x1 : BitVec 64) : List Value := [iI ((x0.seed x1).k), iU ((x0.seed x1).m.toNat), iU ((x0.seed x1).x.a.toNat), iU ((x0.seed x1).x.b.toNat), iU ((x0.seed x1).x.c.toNat), iU ((x0.seed x1).x.d.toNat), uH ((x0.seed x1).s), uL ((x0.seed x1).s), uH ((x0.seed x1).i), uL ((x0.seed x1).i), uH ((x0.seed x1).c), uL ((x0.seed x1).c), iW ((x0.seed x1).k0.toNat), iW ((x0.seed x1).k1.toNat), .bool ((x0.seed x1).b)]
abbrev L127 (x0 : Bd.Gen) (x1 : BitVec 64) (x2 : BitVec 128) : List Value := [iI ((Bd.org x0 x1 x2).k), iU ((Bd.org x0 x1 x2).m.toNat), iU ((Bd.org x0 x1 x2).x.a.toNat), iU ((Bd.org x0 x1 x2).x.b.toNat), iU ((Bd.org x0 x1 x2).x.c.toNat), iU ((Bd.org x0 x1 x2).x.d.toNat), uH ((Bd.org x0 x1 x2).s), uL ((Bd.org x0 x1 x2).s), uH ((Bd.org x0 x1 x2).i), uL ((Bd.org x0 x1 x2).i), uH ((Bd.org x0 x1 x2).c), uL ((Bd.org x0 x1 x2).c), iW ((Bd.org x0 x1 x2).k0.toNat), iW ((Bd.org x0 x1 x2).k1.toNat), .bool ((Bd.org x0 x1 x2).b)]
theorem cx4003 (hlt : at'.toNat < G.lim.toNat) (hne : 0 < at'.toNat) (H : Sx.Own w0 w (Bt g1 (L117 G n) :: bs) rs K) : Cr 142 #[pT g1 0, .agg #[uH at', uL at']] w0 w (iI 0) (Bt g1 (L120 G n at') :: bs) rs K := by
 refine En Tryz.func142 Tryz.ntmps142 fun A F => ?_
 refine Sp fun _ kk => Zb F (d_box F H rfl rfl [uH at', uL at'] rfl) fun g2 A w F H => ?_
 refine Av F fun A F => ?_
 refine Nl kk (Sx.seq fun K2 hK2 => Sx.seq fun K3 hK3 => ?_)
 have F := F.tq (L119 g1 g2) rfl
 refine Dn F [some (.agg #[uH at', uL at']), some (pT g1 0), some (.agg #[uH G.lim, uL G.lim]), some (iI (Wd.cmp at' G.lim)), some (bF)] (fun L A w => Sx.Own w0 w (Bt g2 [uH at', uL at'] :: Bt g1 (L117 G n) :: bs) rs K) (H.drew.padG [] [] rfl rfl) ?_ ?_
 ·refine ⟨?_, ?_, ?_, ?_, ?_, trivial⟩
  ·exact SV (fun _ _ _ F H => Lr 0 [uH at', uL at'] rw_26 F H)
  ·exact Sa
  ·intro L A w up hun hd F H
   have H : Sx.Own w0 w (Bt g2 [uH at', uL at'] :: Bt g1 (L117 G n) :: bs) rs K := H
   have H := H.pickN 2 0 [1, 0] []
   refine step_on rfl (Do if_159 F (cx4001 H)) ?_
   rintro xv w' ⟨hx, H⟩
   have H := H.pickN 2 0 [1, 0] []
   exact ⟨Cs hx, H⟩
  ·intro L A w up hun hd F H
   refine step_on rfl (Dc if_16 F H (wcmp_c at' G.lim _)) ?_
   rintro xv w' ⟨hx, H⟩
   exact ⟨Cs hx, H⟩
  ·exact SV (fun _ _ _ F _ => Bn bF F rfl rfl rfl (i_gt (decide_eq_false fun h => absurd ((Bd.cmp_gt0 _ _).1 h) (Nat.not_lt.2 (Nat.le_of_lt hlt)))))
 ·intro L A w hL F H
  have H := H.pickN 2 0 [0, 1] []
  have F := F.tq [(0, pT g1 0), (3, pT g2 0), (4, iI 0), (12, bF)] rfl
  refine hK3 _ _ (condF F rfl (wp_skip (hK2 _ _ (Sx.seq fun K4 hK4 => ?_))))
  have F := F.tq (L119 g1 g2) rfl
  refine Dn F [some (pT g1 0), some (pT g1 0), some (pT g1 0), some (pT g1 2), some (.agg #[iU 0, iU 0]), some (.agg #[uH at', uL at']), some (L121 at'), some (L121 at'), some (.agg #[uH at', uL at']), some (bF), some (pT g1 0), some (pT g1 2), none] (fun L A w => Sx.Own w0 w (Bt g2 [uH at', uL at'] :: Bt g1 (cond (L 12) (L122 G n at') (L117 G n)) :: bs) rs K) (H.drew.padG [] [] rfl rfl) ?_ ?_
  ·refine ⟨?_, ?_, ?_, ?_, ?_, ?_, ?_, ?_, ?_, ?_, ?_, ?_, ?_, trivial⟩
   ·exact Sa
   ·exact Sa
   ·exact Sa
   ·exact Sa
   ·intro L A w up hun hd F H
    have f12 : L 12 = false := up 12 4 rfl hun
    have Hj := H; rw [f12] at Hj
    refine step_on rfl (Lr 1 [iU 0, iU 0] rw_26 F Hj) ?_
    rintro xv w' ⟨hx, rfl⟩
    exact ⟨Cs hx, H⟩
   ·exact SV (fun _ _ _ F H => Lr 0 [uH at', uL at'] rw_26 F H)
   ·intro L A w up hun hd F H
    have f12 : L 12 = false := up 12 6 rfl hun
    rw [f12] at H
    refine step_on rfl (Dc (v := (L121 at')) if_14 F H (Calls.val (v' := (L121 at')) (wadd_c 0#128 at' _) rfl (by rw [BitVec.zero_add, Bd.over0]))) ?_
    rintro xv w' ⟨hx, H⟩
    exact ⟨Cs hx, (by show Sx.Own _ _ _ _ _; rw [show Inv.add L 6 12 = false from f12]; exact H)⟩
   ·exact Sa
   ·exact Sa
   ·exact Sa
   ·exact Sa
   ·exact Sa
   ·intro L A w up hun hd F H
    have f12 : L 12 = false := hun
    rw [f12] at H
    refine step_on rfl (d_store (i := 1) (xs := [uH at', uL at']) (us := (L122 G n at')) sz_26 F H rfl rfl rfl rfl rfl rfl rfl (Nat.le_of_ble_eq_true rfl) rfl) ?_
    intro xv w' H
    exact ⟨Cn, H⟩
  ·intro L A w hL F H
   have t12 : L 12 = true := hL 12 rfl
   rw [t12] at H
   have H := H.pickN 2 0 [0, 1] []
   have F := F.tq (L119 g1 g2) rfl
   refine hK4 _ _ (Sp fun _ kk => ?_)
   iterate 4 (refine Av F ?_; intro A F)
   refine Zv F (d_lenS el_65 F rfl rfl) fun A F => ?_
   refine Zv F (d_conv (v := iU 0) F rfl rfl (by kernel_rfl)) fun A F => ?_
   refine Zw F (d_call (vs := [iU 0]) (v := .agg #[iU 0, iU 0]) if_15 F H rfl rfl (Calls.val (v := L2) (Calls.val (wofV_c 0#64 _) (by kernel_rfl) (by kernel_rfl)) rfl (by kernel_rfl))) fun A w F H => ?_
   refine Zb F (d_alloc H rfl [iU 0, iU 0] zero_26) fun g3 A w F H => ?_
   refine Zs 0 [iU 0, iU 0] sz_26 F H fun A w F H => ?_
   refine Nl kk (Sx.seq fun K6 hK6 => Sp fun _ kk => ?_)
   iterate 2 (refine Av F ?_; intro A F)
   refine Zw F (Dc if_16 F H (wcmp_c at' 0#128 _)) fun A w F H => ?_
   refine Zv F (Bn bF F rfl rfl rfl (i_le (decide_eq_false fun h => absurd ((Bd.cmp_le0 _ _).1 h) (Nat.not_le.2 hne)))) fun A F => ?_
   refine Nl kk (condF F rfl (wp_skip (hK6 _ _ (Sp fun _ kk => ?_))))
   iterate 2 (refine Av F ?_; intro A F)
   refine Zw F (Dc (v := (L121 at')) if_155 F H (Calls.val (v' := (L121 at')) (wsub_c at' 0#128 _) rfl (by rw [BitVec.sub_zero, Bd.less0]))) fun A w F H => ?_
   iterate 3 (refine Av F ?_; intro A F)
   refine Zb F (d_alloc H rfl [iU 0, iU 0] zero_26) fun g4 A w F H => ?_
   refine Zs 0 [uH at', uL at'] sz_26 F H fun A w F H => ?_
   refine Av F fun A F => ?_
   refine Nl kk (Sp fun _ kk => ?_)
   iterate 3 (refine Av F ?_; intro A F)
   refine Zs 3 (L122 G n at') sz_65 F H fun A w F H => ?_
   refine Nl kk (Sx.seq fun K10 hK10 => ?_)
   have F := F.tq [(0, pT g1 0), (4, iI 0), (6, pT g4 0)] rfl
   have H := H.pickN 4 0 [0, 3] []
   refine Dn F [some (pT g1 0), some (pT g1 0), some (pT g1 0), some (pT g1 13), some (L123 G n), some (.agg #[uH at', uL at']), some (L125 G n at'), some (L125 G n at'), some (L124 G n at'), some (iI 0), some (pT g1 0), some (pT g1 13), none] (fun L A w => Sx.Own w0 w (Bt g4 [uH at', uL at'] :: Bt g1 (cond (L 12) (L120 G n at') (L122 G n at')) :: bs) rs K) (H.drew.padG [] [] rfl rfl) ?_ ?_
   ·refine ⟨?_, ?_, ?_, ?_, ?_, ?_, ?_, ?_, ?_, ?_, ?_, ?_, ?_, trivial⟩
    ·exact Sa
    ·exact Sa
    ·exact Sa
    ·exact Sa
    ·intro L A w up hun hd F H
     have f12 : L 12 = false := up 12 4 rfl hun
     have Hj := H; rw [f12] at Hj
     refine step_on rfl (Lr 1 (L126 G n) rw_35 F Hj) ?_
     rintro xv w' ⟨hx, rfl⟩
     exact ⟨Cs hx, H⟩
    ·exact SV (fun _ _ _ F H => Lr 0 [uH at', uL at'] rw_26 F H)
    ·intro L A w up hun hd F H
     have f12 : L 12 = false := up 12 6 rfl hun
     rw [f12] at H
     refine step_on rfl (Dc (v := (L125 G n at')) if_6 F H (Calls.val (v' := (L125 G n at')) (G.jump_c (G.seed n) (G.ok_seed n) at' _) rfl rfl)) ?_
     rintro xv w' ⟨hx, H⟩
     exact ⟨Cs hx, (by show Sx.Own _ _ _ _ _; rw [show Inv.add L 6 12 = false from f12]; exact H)⟩
    ·exact Sa
    ·exact Sa
    ·exact Sa
    ·exact Sa
    ·exact Sa
    ·intro L A w up hun hd F H
     have f12 : L 12 = false := hun
     rw [f12] at H
     refine step_on rfl (d_store (i := 1) (xs := (L127 G n at')) (us := (L120 G n at')) sz_35 F H rfl rfl rfl rfl rfl rfl rfl (Nat.le_of_ble_eq_true rfl) rfl) ?_
     intro xv w' H
     exact ⟨Cn, H⟩
   ·intro L A w hL F H
    have t12 : L 12 = true := hL 12 rfl
    rw [t12] at H
    have H := H.pickN 2 0 [0, 1] []
    have F := F.tq [(4, iI 0)] rfl
    refine hK10 _ _ (Sp fun _ kk => Av F fun A F => ?_)
    refine Nl kk (Wr (ret1 F Tryz.results142 (res_tmp F rfl) ?_))
    exact ⟨_, rfl, rfl, H.pickN 2 0 [1] []⟩
theorem curskip_c {w0 w : World} {bs : List Sx.Bx} {rs : List Sx.Rx} {K : Nat → Option Obj} {G : Bd.Gen} {n : BitVec 64} {at' : BitVec 128} {g1 : Nat} (hlt : at'.toNat < G.lim.toNat) (H : Sx.Own w0 w (Bt g1 [.int .i64 G.k, .int .u64 n.toNat, .int .u64 0, .int .u64 0, .int .u64 0, .int .u64 0, .int .u64 0, .int .u64 0, .int .u64 0, .int .u64 0, .int .u64 0, .int .u64 0, .slice none 0 0, .int .i64 ((G.seed n).k), .int .u64 ((G.seed n).m.toNat), .int .u64 ((G.seed n).x.a.toNat), .int .u64 ((G.seed n).x.b.toNat), .int .u64 ((G.seed n).x.c.toNat), .int .u64 ((G.seed n).x.d.toNat), .int .u64 ((Wd.hi ((G.seed n).s)).toNat), .int .u64 ((Wd.lo ((G.seed n).s)).toNat), .int .u64 ((Wd.hi ((G.seed n).i)).toNat), .int .u64 ((Wd.lo ((G.seed n).i)).toNat), .int .u64 ((Wd.hi ((G.seed n).c)).toNat), .int .u64 ((Wd.lo ((G.seed n).c)).toNat), .int .u32 ((G.seed n).k0.toNat), .int .u32 ((G.seed n).k1.toNat), .bool ((G.seed n).b)] :: bs) rs K) : Calls Tryz.prog 142 #[.pointer (some ⟨g1, 0, none⟩), .agg #[.int .u64 ((Wd.hi at').toNat), .int .u64 ((Wd.lo at').toNat)]] w fun e w' => ∃ x, e = .returned x ∧ x = .int .i64 0 ∧ Sx.Own w0 w' (Bt g1 [.int .i64 G.k, .int .u64 n.toNat, .int .u64 ((Wd.hi at').toNat), .int .u64 ((Wd.lo at').toNat), .int .u64 ((Bd.noy 0).toNat), .int .u64 ((Bd.noy 1).toNat), .int .u64 ((Bd.noy 2).toNat), .int .u64 ((Bd.noy 3).toNat), .int .u64 ((Bd.noy 4).toNat), .int .u64 ((Bd.noy 5).toNat), .int .u64 ((Bd.noy 6).toNat), .int .u64 ((Bd.noy 7).toNat), .slice none 0 0, .int .i64 ((Bd.org G n at').k), .int .u64 ((Bd.org G n at').m.toNat), .int .u64 ((Bd.org G n at').x.a.toNat), .int .u64 ((Bd.org G n at').x.b.toNat), .int .u64 ((Bd.org G n at').x.c.toNat), .int .u64 ((Bd.org G n at').x.d.toNat), .int .u64 ((Wd.hi ((Bd.org G n at').s)).toNat), .int .u64 ((Wd.lo ((Bd.org G n at').s)).toNat), .int .u64 ((Wd.hi ((Bd.org G n at').i)).toNat), .int .u64 ((Wd.lo ((Bd.org G n at').i)).toNat), .int .u64 ((Wd.hi ((Bd.org G n at').c)).toNat), .int .u64 ((Wd.lo ((Bd.org G n at').c)).toNat), .int .u32 ((Bd.org G n at').k0.toNat), .int .u32 ((Bd.org G n at').k1.toNat), .bool ((Bd.org G n at').b)] :: bs) rs K := by
  by_cases hne : 0 < at'.toNat
  · refine (cx4003 hlt hne H).mono ?_
    rintro e w' ⟨x, rfl, rfl, H⟩
    have hc : ([.int .i64 G.k, .int .u64 n.toNat, .int .u64 ((Wd.hi at').toNat), .int .u64 ((Wd.lo at').toNat), .int .u64 0, .int .u64 0, .int .u64 0, .int .u64 0, .int .u64 0, .int .u64 0, .int .u64 0, .int .u64 0, .slice none 0 0, .int .i64 ((Bd.org G n at').k), .int .u64 ((Bd.org G n at').m.toNat), .int .u64 ((Bd.org G n at').x.a.toNat), .int .u64 ((Bd.org G n at').x.b.toNat), .int .u64 ((Bd.org G n at').x.c.toNat), .int .u64 ((Bd.org G n at').x.d.toNat), .int .u64 ((Wd.hi ((Bd.org G n at').s)).toNat), .int .u64 ((Wd.lo ((Bd.org G n at').s)).toNat), .int .u64 ((Wd.hi ((Bd.org G n at').i)).toNat), .int .u64 ((Wd.lo ((Bd.org G n at').i)).toNat), .int .u64 ((Wd.hi ((Bd.org G n at').c)).toNat), .int .u64 ((Wd.lo ((Bd.org G n at').c)).toNat), .int .u32 ((Bd.org G n at').k0.toNat), .int .u32 ((Bd.org G n at').k1.toNat), .bool ((Bd.org G n at').b)] : List Value) = [.int .i64 G.k, .int .u64 n.toNat, .int .u64 ((Wd.hi at').toNat), .int .u64 ((Wd.lo at').toNat), .int .u64 ((Bd.noy 0).toNat), .int .u64 ((Bd.noy 1).toNat), .int .u64 ((Bd.noy 2).toNat), .int .u64 ((Bd.noy 3).toNat), .int .u64 ((Bd.noy 4).toNat), .int .u64 ((Bd.noy 5).toNat), .int .u64 ((Bd.noy 6).toNat), .int .u64 ((Bd.noy 7).toNat), .slice none 0 0, .int .i64 ((Bd.org G n at').k), .int .u64 ((Bd.org G n at').m.toNat), .int .u64 ((Bd.org G n at').x.a.toNat), .int .u64 ((Bd.org G n at').x.b.toNat), .int .u64 ((Bd.org G n at').x.c.toNat), .int .u64 ((Bd.org G n at').x.d.toNat), .int .u64 ((Wd.hi ((Bd.org G n at').s)).toNat), .int .u64 ((Wd.lo ((Bd.org G n at').s)).toNat), .int .u64 ((Wd.hi ((Bd.org G n at').i)).toNat), .int .u64 ((Wd.lo ((Bd.org G n at').i)).toNat), .int .u64 ((Wd.hi ((Bd.org G n at').c)).toNat), .int .u64 ((Wd.lo ((Bd.org G n at').c)).toNat), .int .u32 ((Bd.org G n at').k0.toNat), .int .u32 ((Bd.org G n at').k1.toNat), .bool ((Bd.org G n at').b)] := by kernel_rfl
    exact ⟨_, rfl, rfl, Eq.mp (congrArg (fun x => Sx.Own w0 w' (Bt g1 x :: bs) rs K) hc) H⟩
  · obtain rfl : at' = 0#128 := BitVec.eq_of_toNat_eq (by simp; omega)
    have ho : Bd.org G n 0#128 = G.seed n := G.jump0 _ (G.ok_seed n)
    refine (cx4002  H).mono ?_
    rintro e w' ⟨x, rfl, rfl, H⟩
    have hc : ([.int .i64 G.k, .int .u64 n.toNat, .int .u64 0, .int .u64 0, .int .u64 0, .int .u64 0, .int .u64 0, .int .u64 0, .int .u64 0, .int .u64 0, .int .u64 0, .int .u64 0, .slice none 0 0, .int .i64 ((G.seed n).k), .int .u64 ((G.seed n).m.toNat), .int .u64 ((G.seed n).x.a.toNat), .int .u64 ((G.seed n).x.b.toNat), .int .u64 ((G.seed n).x.c.toNat), .int .u64 ((G.seed n).x.d.toNat), .int .u64 ((Wd.hi ((G.seed n).s)).toNat), .int .u64 ((Wd.lo ((G.seed n).s)).toNat), .int .u64 ((Wd.hi ((G.seed n).i)).toNat), .int .u64 ((Wd.lo ((G.seed n).i)).toNat), .int .u64 ((Wd.hi ((G.seed n).c)).toNat), .int .u64 ((Wd.lo ((G.seed n).c)).toNat), .int .u32 ((G.seed n).k0.toNat), .int .u32 ((G.seed n).k1.toNat), .bool ((G.seed n).b)] : List Value) = [.int .i64 G.k, .int .u64 n.toNat, .int .u64 ((Wd.hi 0#128).toNat), .int .u64 ((Wd.lo 0#128).toNat), .int .u64 ((Bd.noy 0).toNat), .int .u64 ((Bd.noy 1).toNat), .int .u64 ((Bd.noy 2).toNat), .int .u64 ((Bd.noy 3).toNat), .int .u64 ((Bd.noy 4).toNat), .int .u64 ((Bd.noy 5).toNat), .int .u64 ((Bd.noy 6).toNat), .int .u64 ((Bd.noy 7).toNat), .slice none 0 0, .int .i64 ((G.seed n).k), .int .u64 ((G.seed n).m.toNat), .int .u64 ((G.seed n).x.a.toNat), .int .u64 ((G.seed n).x.b.toNat), .int .u64 ((G.seed n).x.c.toNat), .int .u64 ((G.seed n).x.d.toNat), .int .u64 ((Wd.hi ((G.seed n).s)).toNat), .int .u64 ((Wd.lo ((G.seed n).s)).toNat), .int .u64 ((Wd.hi ((G.seed n).i)).toNat), .int .u64 ((Wd.lo ((G.seed n).i)).toNat), .int .u64 ((Wd.hi ((G.seed n).c)).toNat), .int .u64 ((Wd.lo ((G.seed n).c)).toNat), .int .u32 ((G.seed n).k0.toNat), .int .u32 ((G.seed n).k1.toNat), .bool ((G.seed n).b)] := by kernel_rfl
    rw [ho]
    exact ⟨_, rfl, rfl, Eq.mp (congrArg (fun x => Sx.Own w0 w' (Bt g1 x :: bs) rs K) hc) H⟩
namespace Bd
def Awake : Prop := ∀ w : World, Calls Tryz.prog 5 #[] w fun e w' => e = .returned (.bool true) ∧ Below w.heap.size w w'
theorem cmp_ge0 (a b : BitVec 128) : Wd.cmp a b ≥ 0 ↔ b.toNat ≤ a.toNat := by
  unfold Wd.cmp Wd.cmpN
  split
  · simp; omega
  · split <;> simp <;> omega
def lw (lf : BitVec 8) : BitVec 128 := Wd.of (BitVec.ofNat 64 lf.toNat)
theorem of_nat (x : BitVec 64) : (Wd.of x).toNat = x.toNat := by
  have := x.isLt
  unfold Wd.of
  rw [Wd.mk_nat]; simp
theorem lw_nat (lf : BitVec 8) : (lw lf).toNat = lf.toNat := by
  have := lf.isLt
  unfold lw
  rw [of_nat, BitVec.toNat_ofNat]; omega
theorem lim_ne (G : Gen) : Wd.eqb G.lim 0#128 = false := decide_eq_false fun e => by
  have := congrArg BitVec.toNat e
  have := G.lim_pos
  have e0 : (0#128 : BitVec 128).toNat = 0 := rfl
  omega
variable {G : Gen} {n b : BitVec 64} {at' : BitVec 128} {lf : BitVec 8} {j : Nat}
theorem to_nat (G : Gen) (hto : at'.toNat + lf.toNat ≤ G.lim.toNat) : (at' + lw lf).toNat = at'.toNat + lf.toNat := by
  rw [BitVec.toNat_add, lw_nat]; have := G.lim_le; omega
theorem to_le (G : Gen) (hto : at'.toNat + lf.toNat ≤ G.lim.toNat) : (at' + lw lf).toNat ≤ G.lim.toNat := by rw [to_nat G hto]; exact hto
theorem early (G : Gen) (at' : BitVec 128) (lf : BitVec 8) (b : BitVec 64) : 40 < lf.toNat ∨ (¬ 40 < lf.toNat ∧ lf.toNat < 1) ∨ (¬ 40 < lf.toNat ∧ ¬ lf.toNat < 1 ∧ Wd.over at' (lw lf) = true) ∨ (¬ 40 < lf.toNat ∧ ¬ lf.toNat < 1 ∧ Wd.over at' (lw lf) = false ∧ decide ((Wd.cmp (at' + (lw lf)) G.lim : Int) > 0) = true) ∨ (¬ 40 < lf.toNat ∧ ¬ lf.toNat < 1 ∧ Wd.over at' (lw lf) = false ∧ decide ((Wd.cmp (at' + (lw lf)) G.lim : Int) > 0) = false ∧ b.toNat = 0) ∨ (¬ 40 < lf.toNat ∧ ¬ lf.toNat < 1 ∧ Wd.over at' (lw lf) = false ∧ decide ((Wd.cmp (at' + (lw lf)) G.lim : Int) > 0) = false ∧ b.toNat ≠ 0) := by
  by_cases h1 : 40 < lf.toNat
  · exact .inl h1
  by_cases h2 : lf.toNat < 1
  · exact .inr (.inl ⟨h1, h2⟩)
  cases h3 : Wd.over at' (lw lf)
  · cases h4 : decide ((Wd.cmp (at' + (lw lf)) G.lim : Int) > 0)
    · by_cases h5 : b.toNat = 0
      · exact .inr (.inr (.inr (.inr (.inl ⟨h1, h2, rfl, rfl, h5⟩))))
      · exact .inr (.inr (.inr (.inr (.inr ⟨h1, h2, rfl, rfl, h5⟩))))
    · exact .inr (.inr (.inr (.inl ⟨h1, h2, rfl, rfl⟩)))
  · exact .inr (.inr (.inl ⟨h1, h2, rfl⟩))
theorem main_of (G : Gen) (na : ¬ 40 < lf.toNat) (nb : ¬ lf.toNat < 1) (nc : Wd.over at' (lw lf) = false) (nd : decide ((Wd.cmp (at' + (lw lf)) G.lim : Int) > 0) = false) : at'.toNat + lf.toNat ≤ G.lim.toNat ∧ at'.toNat < G.lim.toNat ∧ 1 ≤ lf.toNat ∧ lf.toNat ≤ 40 := by
  have h1 := of_decide_eq_false nc
  have h2 := of_decide_eq_false nd
  rw [cmp_gt0] at h2
  rw [lw_nat] at h1
  rw [BitVec.toNat_add, lw_nat] at h2
  omega
theorem at_ws (G : Gen) {Z : Gs} {m : Nat} (h : j < m) : (u64s (G.ws m Z))[j]? = some (.int .u64 (G.word (G.it j Z)).toNat) := by
  show (List.map _ _)[j]? = _
  rw [List.getElem?_map, Gp.ws_at _ _ _ _ h]; rfl
theorem val_lt (x : BitVec 64) (hb : b.toNat ≠ 0) : (val x b).toNat < b.toNat := by
  unfold val
  rw [← Wd.full_hi]
  have := x.isLt
  apply Nat.div_lt_of_lt_mul
  exact Nat.mul_lt_mul_of_pos_right this (by omega)
theorem wd_add (h : at'.toNat + j < 340282366920938463463374607431768211456) : (at' + BitVec.ofNat 128 j).toNat = at'.toNat + j ∧ wd G n at' (at' + BitVec.ofNat 128 j) = G.word (G.it j (org G n at')) := by
  have e : (at' + BitVec.ofNat 128 j).toNat = at'.toNat + j := by
    rw [BitVec.toNat_add, BitVec.toNat_ofNat]; omega
  refine ⟨e, ?_⟩
  unfold wd
  rw [e, Nat.add_sub_cancel_left]
theorem told_at {a1 : BitVec 64} {j1 : Int} {o2 : BitVec 128} (hto : at'.toNat + lf.toNat ≤ G.lim.toNat) (hj : j < lf.toNat) (hl : lf.toNat ≤ 40) (hb : b.toNat ≠ 0) (hJ : ∀ i, i < j → taken (G.word (G.it i (org G n at'))) b = false) (ht : taken (G.word (G.it j (org G n at'))) b = true) (hT : Told G n at' b a1 j1 o2) :
    j1 = 0 ∧ ((a1.toNat : Nat) : Int) = (((val (G.word (G.it j (org G n at'))) b).toNat : Nat) : Int) ∧ decide ((((val (G.word (G.it j (org G n at'))) b).toNat : Nat) : Int) < ((b.toNat : Nat) : Int)) = true ∧ Wd.eqb o2 (at' + (Wd.of ((BitVec.ofNat 64 j) + 1#64))) = true := by
  have hll := G.lim_le
  obtain ⟨e0, w0⟩ := wd_add (G := G) (n := n) (at' := at') (j := j) (by omega)
  rcases hT with ⟨rfl, q, h1, h2, rfl, hU, hq, rfl⟩ | ⟨rfl, rfl, rfl, hU⟩
  · have hq' : q = at' + BitVec.ofNat 128 j := by
      apply BitVec.eq_of_toNat_eq
      rw [e0]
      rcases Nat.lt_trichotomy q.toNat (at'.toNat + j) with h | h | h
      · exfalso
        have := hJ (q.toNat - at'.toNat) (by omega)
        unfold wd at hq
        rw [this] at hq; cases hq
      · exact h
      · exfalso
        have := hU (at' + BitVec.ofNat 128 j) (by omega) (by omega)
        rw [w0, ht] at this; cases this
    subst hq'
    rw [w0]
    refine ⟨rfl, rfl, decide_eq_true (by have := val_lt (b := b) (G.word (G.it j (org G n at'))) hb; omega), decide_eq_true ?_⟩
    apply BitVec.eq_of_toNat_eq
    rw [BitVec.toNat_add, e0, BitVec.toNat_add, of_nat, BitVec.toNat_add]
    simp only [BitVec.toNat_ofNat]
    omega
  · exfalso
    have := hU (at' + BitVec.ofNat 128 j) (by omega) (by omega)
    rw [w0, ht] at this; cases this
theorem far {q : BitVec 128} (hJ : ∀ i, i < lf.toNat → taken (G.word (G.it i (org G n at'))) b = false) (h1 : at'.toNat ≤ q.toNat) (hq : taken (wd G n at' q) b = true) : at'.toNat + lf.toNat ≤ q.toNat := by
  by_cases h : q.toNat < at'.toNat + lf.toNat
  · have := hJ (q.toNat - at'.toNat) (by omega)
    unfold wd at hq
    rw [this] at hq; cases hq
  · omega
theorem told_end {a1 : BitVec 64} {j1 : Int} {o2 : BitVec 128} (hto : at'.toNat + lf.toNat ≤ G.lim.toNat) (hJ : ∀ i, i < lf.toNat → taken (G.word (G.it i (org G n at'))) b = false) (he : Wd.eqb (at' + (lw lf)) G.lim = true) (hT : Told G n at' b a1 j1 o2) : j1 = 7 ∧ Wd.eqb o2 (at' + (lw lf)) = true := by
  have he' := of_decide_eq_true he
  have e := congrArg BitVec.toNat he'
  rw [to_nat G hto] at e
  rcases hT with ⟨rfl, q, h1, h2, rfl, hU, hq, rfl⟩ | ⟨rfl, rfl, rfl, hU⟩
  · have := far hJ h1 hq
    omega
  · exact ⟨rfl, decide_eq_true he'.symm⟩
theorem told_far {a1 : BitVec 64} {j1 : Int} {o2 : BitVec 128} (hto : at'.toNat + lf.toNat ≤ G.lim.toNat) (hJ : ∀ i, i < lf.toNat → taken (G.word (G.it i (org G n at'))) b = false) (hT : Told G n at' b a1 j1 o2) : (j1 = 0 ∧ decide ((Wd.cmp o2 (at' + (lw lf)) : Int) > 0) = true) ∨ j1 = 7 := by
  rcases hT with ⟨rfl, q, h1, h2, rfl, hU, hq, rfl⟩ | ⟨rfl, rfl, rfl, hU⟩
  · have := far hJ h1 hq
    exact .inl ⟨rfl, decide_eq_true ((cmp_gt0 _ _).2 (by rw [to_nat G hto, succ_nat G h2]; omega))⟩
  · exact .inr rfl
end Bd
end
noncomputable def askR : Code := match Tryz.f19.body with
  | some (.seq _ (.seq r _)) => r
  | _ => .skip
set_option maxRecDepth 100000 in
theorem ask_map {w0 w : World} {A : Act} {bs : List Sx.Bx} {rs : List Sx.Rx} {K : Nat → Option Obj} {kv : List (Nat × Value)} {Q : Exit → Act → World → Prop} (F : Sx.Fr 39 A kv) (H : Sx.Own w0 w bs rs K)
    (h : ∀ (A : Act) (w : World) (mr : Nat) (mo : Obj), K mr = none → Tb.MapIs mo [(0, .func (.func 43) #[] #[]), (1, .func (.func 44) #[] #[]), (2, .func (.func 45) #[] #[]), (3, .func (.func 46) #[] #[]), (4, .func (.func 47) #[] #[]), (5, .func (.func 48) #[] #[]), (6, .func (.func 49) #[] #[]), (7, .func (.func 50) #[] #[]), (8, .func (.func 51) #[] #[]), (9, .func (.func 52) #[] #[])] → Sx.Fr 39 A ((5, .map (some mr)) :: (9, .map (some mr)) :: (8, .map (some mr)) :: kv) → Sx.Own w0 w bs rs (Tb.upd K mr mo) → Q .normal A w) : askR.wp Tryz.prog Q A w := by
  refine Sx.plain ?_
  refine Sx.sX F (Sx.d_makeMap F H rfl) (Sx.wanted_none rfl _) rfl (by decide) ?_
  rintro _ w ⟨mr, rfl, hmK, H⟩ A F
  have hmo : Tb.MapIs (.map #[] 0) [] := ⟨_, _, rfl, rfl⟩
  refine Sx.sX0 F (Sx.d_mapIns (kt := 3) (et := 117) (by kernel_rfl) (by kernel_rfl) F H rfl rfl rfl rfl (if_pos rfl) hmo rfl) (Sx.wanted_none rfl _) rfl ?_
  rintro _ w ⟨mo1, hmo, H⟩ A F
  rw [Sx.upd_upd] at H
  have hmo : Tb.MapIs mo1 [(0, .func (.func 43) #[] #[])] := hmo
  refine Sx.sX0 F (Sx.d_mapIns (kt := 3) (et := 117) (by kernel_rfl) (by kernel_rfl) F H rfl rfl rfl rfl (if_pos rfl) hmo rfl) (Sx.wanted_none rfl _) rfl ?_
  rintro _ w ⟨mo2, hmo, H⟩ A F
  rw [Sx.upd_upd] at H
  have hmo : Tb.MapIs mo2 [(0, .func (.func 43) #[] #[]), (1, .func (.func 44) #[] #[])] := hmo
  refine Sx.sX0 F (Sx.d_mapIns (kt := 3) (et := 117) (by kernel_rfl) (by kernel_rfl) F H rfl rfl rfl rfl (if_pos rfl) hmo rfl) (Sx.wanted_none rfl _) rfl ?_
  rintro _ w ⟨mo3, hmo, H⟩ A F
  rw [Sx.upd_upd] at H
  have hmo : Tb.MapIs mo3 [(0, .func (.func 43) #[] #[]), (1, .func (.func 44) #[] #[]), (2, .func (.func 45) #[] #[])] := hmo
  refine Sx.sX0 F (Sx.d_mapIns (kt := 3) (et := 117) (by kernel_rfl) (by kernel_rfl) F H rfl rfl rfl rfl (if_pos rfl) hmo rfl) (Sx.wanted_none rfl _) rfl ?_
  rintro _ w ⟨mo4, hmo, H⟩ A F
  rw [Sx.upd_upd] at H
  have hmo : Tb.MapIs mo4 [(0, .func (.func 43) #[] #[]), (1, .func (.func 44) #[] #[]), (2, .func (.func 45) #[] #[]), (3, .func (.func 46) #[] #[])] := hmo
  refine Sx.sX0 F (Sx.d_mapIns (kt := 3) (et := 117) (by kernel_rfl) (by kernel_rfl) F H rfl rfl rfl rfl (if_pos rfl) hmo rfl) (Sx.wanted_none rfl _) rfl ?_
  rintro _ w ⟨mo5, hmo, H⟩ A F
  rw [Sx.upd_upd] at H
  have hmo : Tb.MapIs mo5 [(0, .func (.func 43) #[] #[]), (1, .func (.func 44) #[] #[]), (2, .func (.func 45) #[] #[]), (3, .func (.func 46) #[] #[]), (4, .func (.func 47) #[] #[])] := hmo
  refine Sx.sX0 F (Sx.d_mapIns (kt := 3) (et := 117) (by kernel_rfl) (by kernel_rfl) F H rfl rfl rfl rfl (if_pos rfl) hmo rfl) (Sx.wanted_none rfl _) rfl ?_
  rintro _ w ⟨mo6, hmo, H⟩ A F
  rw [Sx.upd_upd] at H
  have hmo : Tb.MapIs mo6 [(0, .func (.func 43) #[] #[]), (1, .func (.func 44) #[] #[]), (2, .func (.func 45) #[] #[]), (3, .func (.func 46) #[] #[]), (4, .func (.func 47) #[] #[]), (5, .func (.func 48) #[] #[])] := hmo
  refine Sx.sX0 F (Sx.d_mapIns (kt := 3) (et := 117) (by kernel_rfl) (by kernel_rfl) F H rfl rfl rfl rfl (if_pos rfl) hmo rfl) (Sx.wanted_none rfl _) rfl ?_
  rintro _ w ⟨mo7, hmo, H⟩ A F
  rw [Sx.upd_upd] at H
  have hmo : Tb.MapIs mo7 [(0, .func (.func 43) #[] #[]), (1, .func (.func 44) #[] #[]), (2, .func (.func 45) #[] #[]), (3, .func (.func 46) #[] #[]), (4, .func (.func 47) #[] #[]), (5, .func (.func 48) #[] #[]), (6, .func (.func 49) #[] #[])] := hmo
  refine Sx.sX0 F (Sx.d_mapIns (kt := 3) (et := 117) (by kernel_rfl) (by kernel_rfl) F H rfl rfl rfl rfl (if_pos rfl) hmo rfl) (Sx.wanted_none rfl _) rfl ?_
  rintro _ w ⟨mo8, hmo, H⟩ A F
  rw [Sx.upd_upd] at H
  have hmo : Tb.MapIs mo8 [(0, .func (.func 43) #[] #[]), (1, .func (.func 44) #[] #[]), (2, .func (.func 45) #[] #[]), (3, .func (.func 46) #[] #[]), (4, .func (.func 47) #[] #[]), (5, .func (.func 48) #[] #[]), (6, .func (.func 49) #[] #[]), (7, .func (.func 50) #[] #[])] := hmo
  refine Sx.sX0 F (Sx.d_mapIns (kt := 3) (et := 117) (by kernel_rfl) (by kernel_rfl) F H rfl rfl rfl rfl (if_pos rfl) hmo rfl) (Sx.wanted_none rfl _) rfl ?_
  rintro _ w ⟨mo9, hmo, H⟩ A F
  rw [Sx.upd_upd] at H
  have hmo : Tb.MapIs mo9 [(0, .func (.func 43) #[] #[]), (1, .func (.func 44) #[] #[]), (2, .func (.func 45) #[] #[]), (3, .func (.func 46) #[] #[]), (4, .func (.func 47) #[] #[]), (5, .func (.func 48) #[] #[]), (6, .func (.func 49) #[] #[]), (7, .func (.func 50) #[] #[]), (8, .func (.func 51) #[] #[])] := hmo
  refine Sx.sX0 F (Sx.d_mapIns (kt := 3) (et := 117) (by kernel_rfl) (by kernel_rfl) F H rfl rfl rfl rfl (if_pos rfl) hmo rfl) (Sx.wanted_none rfl _) rfl ?_
  rintro _ w ⟨mo10, hmo, H⟩ A F
  rw [Sx.upd_upd] at H
  have hmo : Tb.MapIs mo10 [(0, .func (.func 43) #[] #[]), (1, .func (.func 44) #[] #[]), (2, .func (.func 45) #[] #[]), (3, .func (.func 46) #[] #[]), (4, .func (.func 47) #[] #[]), (5, .func (.func 48) #[] #[]), (6, .func (.func 49) #[] #[]), (7, .func (.func 50) #[] #[]), (8, .func (.func 51) #[] #[]), (9, .func (.func 52) #[] #[])] := hmo
  refine Sx.sv F (Sx.d_move F (Or.inl rfl) rfl) (Sx.wanted_none rfl _) rfl (by decide) (fun A F => ?_)
  refine Sx.sv F (Sx.d_move F (Or.inr rfl) rfl) (Sx.wanted_none rfl _) rfl (by decide) (fun A F => ?_)
  refine Sx.nil ?_
  exact h _ _ _ _ hmK hmo F H
section
open Sx
variable {w0 w : World} {bs : List Sx.Bx} {rs : List Sx.Rx} {K : Nat → Option Obj} {g1 g2 g3 g4 g5 g6 g7 g8 g9 g10 g11 g12 g13 g14 g15 g16 g17 g18 g19 g20 g21 g22 g23 g24 c1 c2 c3 c4 c5 c6 c7 c8 c9 : Nat} {v1 v2 v3 v4 v5 v6 v7 v8 v9 : Value} {n b : BitVec 64} {at' : BitVec 128} {kd lf : BitVec 8} {G : Bd.Gen}
theorem cx5001 (H : Sx.Own w0 w bs rs K) : Cq 18 #[] w fun x w' => ∃ g1 : Nat, x = pT g1 0 ∧ Sx.Own w0 w' (Bt g1 [nP] :: bs) rs K := by
 refine En Tryz.func18 Tryz.ntmps18 fun A F => ?_
 refine Sp fun _ kk => Av F fun A F => ?_
 refine Nl kk (Sp fun _ kk => Zv F (d_build (qs := #[]) (v := .agg #[nP]) F rfl rfl (by kernel_rfl)) fun A F => ?_)
 refine Zb F (d_box F H rfl rfl [nP] rfl) fun g1 A w F H => ?_
 refine Av F fun A F => ?_
 refine Nl kk (Wr (ret1 F Tryz.results18 (res_tmp F rfl) ?_))
 exact ⟨_, rfl, g1, rfl, H.pickN 1 0 [0] []⟩
theorem cx5002 (H : Sx.Own w0 w (Bt g1 [nP] :: bs) rs K) : Cr 53 #[pT g1 0] w0 w bT (Bt g1 [nP] :: bs) rs K := by
 refine En Tryz.func53 Tryz.ntmps53 fun A F => ?_
 refine Sp fun _ kk => Av F fun A F => ?_
 refine Nl kk (Sp fun _ kk => ?_)
 iterate 4 (refine Av F ?_; intro A F)
 refine Zn bT F fun A F => ?_
 refine Av F fun A F => ?_
 refine Nl kk (Wr (ret1 F Tryz.results53 (res_tmp F rfl) ?_))
 exact ⟨_, rfl, rfl, H.pickN 1 0 [0] []⟩
theorem cx5003 (H : Sx.Own w0 w bs rs K) : Cq 130 #[] w fun x w' => ∃ g1 : Nat, x = pT g1 0 ∧ Sx.Own w0 w' (Bt g1 [nS, iI 0] :: bs) rs K := by
 refine En Tryz.func130 Tryz.ntmps130 fun A F => ?_
 refine Sp fun _ kk => Av F fun A F => ?_
 refine Nl kk (Sp fun _ kk => Zv F (d_build (qs := #[]) (v := .agg #[nS, iI 0]) F rfl rfl (by kernel_rfl)) fun A F => ?_)
 refine Zb F (d_box F H rfl rfl [nS, iI 0] rfl) fun g1 A w F H => ?_
 refine Av F fun A F => ?_
 refine Nl kk (Wr (ret1 F Tryz.results130 (res_tmp F rfl) ?_))
 exact ⟨_, rfl, g1, rfl, H.pickN 1 0 [0] []⟩
theorem cx5004 (H : Sx.Own w0 w bs rs K) : Cq 93 #[iI G.k, uN n] w fun x w' => ∃ g2 g1 : Nat, x = .tuple #[pT g2 0, iI 0] ∧ Sx.Own w0 w' (Bt g2 [pT g1 0, iI G.k, uN n] :: Bt g1 [nS, iI 0] :: bs) rs K := by
 refine En Tryz.func93 Tryz.ntmps93 fun A F => ?_
 refine Sp fun _ kk => ?_
 iterate 2 (refine Av F ?_; intro A F)
 refine Nl kk (Sx.seq fun K2 hK2 => Sp fun _ kk => Av F fun A F => ?_)
 refine Zw F (Dc if_17 F H (G.limit_c _)) fun A w F H => ?_
 refine Zv F (d_build (qs := #[]) (v := .agg #[iU 0, iU 0]) F rfl rfl (by kernel_rfl)) fun A F => ?_
 refine Zv F (Bn bF F rfl rfl rfl (i_eqV (Bd.lim_ne G))) fun A F => ?_
 refine Nl kk (condF F rfl (wp_skip (hK2 _ _ (Sp fun _ kk => Zx F (Do if_130 F (cx5003 H)) ?_))))
 rintro _ w ⟨g1, rfl, H⟩ A F
 iterate 2 (refine Av F ?_; intro A F)
 refine Zv F (d_build (qs := #[(0, pT g1 0), (1, iI G.k), (2, uN n)]) (v := .agg #[pT g1 0, iI G.k, uN n]) F rfl rfl (by kernel_rfl)) fun A F => ?_
 refine Zb F (d_box F H rfl rfl [pT g1 0, iI G.k, uN n] rfl) fun g2 A w F H => ?_
 iterate 2 (refine Av F ?_; intro A F)
 refine Nl kk (Wr (ret2 F Tryz.results93 (res_tmp F rfl) (res_tmp F rfl) ?_))
 exact ⟨_, rfl, g2, g1, rfl, H.pickN 2 0 [0, 1] []⟩
abbrev L128 (x0 : Bd.Gen) : Value := .agg #[iU 0, iU 0, uH x0.lim, uL x0.lim]
theorem cx5005 (H : Sx.Own w0 w bs rs K) : Cr 119 #[(L128 G)] w0 w bT bs rs K := by
 refine En Tryz.func119 Tryz.ntmps119 fun A F => ?_
 refine Sp fun _ kk => Zb F (d_box F H rfl rfl [iU 0, iU 0, uH G.lim, uL G.lim] rfl) fun g1 A w F H => ?_
 refine Av F fun A F => ?_
 refine Nl kk (Sp fun _ kk => ?_)
 iterate 4 (refine Av F ?_; intro A F)
 refine Zw F (Dc if_16 F H (wcmp_c 0#128 G.lim _)) fun A w F H => ?_
 refine Zv F (Bn bT F rfl rfl rfl (i_le (decide_eq_true ((Bd.cmp_le0 _ _).2 (Nat.zero_le _))))) fun A F => ?_
 refine Av F fun A F => ?_
 refine Nl kk (Wr (ret1 F Tryz.results119 (res_tmp F rfl) ?_))
 exact ⟨_, rfl, rfl, H.pickN 1 0 [] []⟩
theorem cx5006 (H : Sx.Own w0 w (Bt g1 [nS, iI 0] :: bs) rs K) : Cr 82 #[pT g1 0] w0 w nS (Bt g1 [nS, iI 0] :: bs) rs K := by
 refine En Tryz.func82 Tryz.ntmps82 fun A F => ?_
 refine Sp fun _ kk => Av F fun A F => ?_
 refine Nl kk (Sp fun _ kk => Av F fun A F => ?_)
 refine Nl kk (Sx.seq fun K3 hK3 => Sp fun _ kk => ?_)
 iterate 4 (refine Av F ?_; intro A F)
 refine Zv F (d_lenS el_213 F rfl rfl) fun A F => ?_
 refine Av F fun A F => ?_
 refine Nl kk (wp_block (wp_loop_rounds 40 ?_))
 refine Rs ?_
 refine Sp fun _ kk => Av F fun A F => ?_
 refine Nl kk (Sx.seq fun K6 hK6 => condF F rfl (wp_exit ?_))
 try dsimp only [Exit.then, Exit.jump, Exit.noGoto]
 refine exit_here (hK3 _ _ (Sp fun _ kk => ?_))
 iterate 2 (refine Av F ?_; intro A F)
 refine Nl kk (Wr (ret1 F Tryz.results82 (res_tmp F rfl) ?_))
 exact ⟨_, rfl, rfl, H.pickN 1 0 [0] []⟩
theorem cx5007 (H : Sx.Own w0 w (Bt g1 [pT g2 0, iI G.k, uN n] :: Bt g2 [nS, iI 0] :: bs) rs K) : Cr 56 #[pT g1 0] w0 w nS (Bt g1 [pT g2 0, iI G.k, uN n] :: Bt g2 [nS, iI 0] :: bs) rs K := by
 refine En Tryz.func56 Tryz.ntmps56 fun A F => ?_
 refine Sp fun _ kk => Av F fun A F => ?_
 refine Nl kk (Sp fun _ kk => Av F fun A F => ?_)
 refine Nl kk (Sx.seq fun K3 hK3 => Sp fun _ kk => ?_)
 iterate 4 (refine Av F ?_; intro A F)
 have H := H.pickN 2 0 [1, 0] []
 refine Zx F (Do if_82 F (cx5006 H)) ?_
 rintro _ w ⟨rfl, H⟩ A F
 refine Zv F (d_lenS el_54 F rfl rfl) fun A F => ?_
 refine Av F fun A F => ?_
 refine Nl kk (wp_block (wp_loop_rounds 40 ?_))
 refine Rs ?_
 refine Sp fun _ kk => Av F fun A F => ?_
 refine Nl kk (Sx.seq fun K6 hK6 => condF F rfl (wp_exit ?_))
 try dsimp only [Exit.then, Exit.jump, Exit.noGoto]
 refine exit_here (hK3 _ _ (Sp fun _ kk => ?_))
 iterate 2 (refine Av F ?_; intro A F)
 refine Nl kk (Wr (ret1 F Tryz.results56 (res_tmp F rfl) ?_))
 exact ⟨_, rfl, rfl, H.pickN 2 0 [1, 0] []⟩
theorem cx5008 (H : Sx.Own w0 w bs rs K) : Cr 153 #[nS, .func (.func 132) #[] #[pT g1 0]] w0 w (iI (-1)) bs rs K := by
 refine En Tryz.func153 Tryz.ntmps153 fun A F => ?_
 refine Sp fun _ kk => Av F fun A F => ?_
 refine Nl kk (Sx.seq fun K2 hK2 => Sp fun _ kk => Av F fun A F => ?_)
 refine Zv F (d_lenS el_74 F rfl rfl) fun A F => ?_
 refine Av F fun A F => ?_
 refine Nl kk (wp_block (wp_loop_rounds 40 ?_))
 refine Rs ?_
 refine Sp fun _ kk => Av F fun A F => ?_
 refine Nl kk (Sx.seq fun K5 hK5 => condF F rfl (wp_exit ?_))
 try dsimp only [Exit.then, Exit.jump, Exit.noGoto]
 refine exit_here (hK2 _ _ (Sp fun _ kk => Av F fun A F => ?_))
 refine Nl kk (Wr (ret1 F Tryz.results153 (res_tmp F rfl) ?_))
 exact ⟨_, rfl, rfl, H.pickN 0 0 [] []⟩
theorem cx5009 (H : Sx.Own w0 w bs rs K) : Cr 131 #[nS, .func (.func 132) #[] #[pT g1 0]] w0 w bF bs rs K := by
 refine En Tryz.func131 Tryz.ntmps131 fun A F => ?_
 refine Sp fun _ kk => Av F fun A F => ?_
 refine Nl kk (Sp fun _ kk => ?_)
 iterate 2 (refine Av F ?_; intro A F)
 refine Zx F (Do if_153 F (cx5008 H)) ?_
 rintro _ w ⟨rfl, H⟩ A F
 iterate 2 (refine Av F ?_; intro A F)
 refine Nl kk (Wr (ret1 F Tryz.results131 (res_tmp F rfl) ?_))
 exact ⟨_, rfl, rfl, H.pickN 0 0 [] []⟩
abbrev L129 (x0 : Bd.Gen) (x1 : BitVec 64) : Value := .tuple #[.agg #[iI ((x0.seed x1).k), iU ((x0.seed x1).m.toNat), iU ((x0.seed x1).x.a.toNat), iU ((x0.seed x1).x.b.toNat), iU ((x0.seed x1).x.c.toNat), iU ((x0.seed x1).x.d.toNat), uH ((x0.seed x1).s), uL ((x0.seed x1).s), uH ((x0.seed x1).i), uL ((x0.seed x1).i), uH ((x0.seed x1).c), uL ((x0.seed x1).c), iW ((x0.seed x1).k0.toNat), iW ((x0.seed x1).k1.toNat), .bool ((x0.seed x1).b)], iI 0]
theorem cx5010 (H : Sx.Own w0 w bs rs K) : Cq 138 #[iI G.k, uN n, .agg #[iU 0, iU 0]] w fun x w' => ∃ g3 : Nat, x = .tuple #[pT g3 0, iI 0] ∧ Sx.Own w0 w' (Bt g3 (L117 G n) :: bs) rs K := by
 refine En Tryz.func138 Tryz.ntmps138 fun A F => ?_
 refine Sp fun _ kk => Zb F (d_box F H rfl rfl [iU 0, iU 0] rfl) fun g1 A w F H => ?_
 iterate 2 (refine Av F ?_; intro A F)
 refine Nl kk (Sp fun _ kk => ?_)
 iterate 2 (refine Av F ?_; intro A F)
 refine Zw F (Dc if_81 F H (G.new_c n _)) fun A w F H => ?_
 iterate 3 (refine Av F ?_; intro A F)
 refine Zb F (d_alloc H rfl L79 zero_35) fun g2 A w F H => ?_
 refine Zs 0 (L126 G n) sz_35 F H fun A w F H => ?_
 refine Av F fun A F => ?_
 refine Nl kk (Sx.seq fun K3 hK3 => wp_block (Sp fun _ kk => ?_))
 iterate 3 (refine Av F ?_; intro A F)
 refine Nl kk (condF F rfl (Sx.seq fun K5 hK5 => ?_))
 have F := F.tq [(0, iI G.k), (1, uN n), (5, pT g1 0), (6, nP), (7, iI 0), (8, pT g2 0), (9, iI 0)] rfl
 refine Dn F [some (.agg #[iU 0, iU 0]), some (iI G.k), some (.agg #[uH G.lim, uL G.lim]), some (iI (Wd.cmp 0#128 G.lim)), some (bF), some (bF)] (fun L A w => Sx.Own w0 w (Bt g2 (L126 G n) :: Bt g1 [iU 0, iU 0] :: bs) rs K) (H.drew.padG [] [] rfl rfl) ?_ ?_
 ·refine ⟨?_, ?_, ?_, ?_, ?_, ?_, trivial⟩
  ·exact SV (fun _ _ _ F H => Lr 1 [iU 0, iU 0] rw_26 F H)
  ·exact Sa
  ·intro L A w up hun hd F H
   refine step_on rfl (Dc if_17 F H (G.limit_c _)) ?_
   rintro xv w' ⟨hx, H⟩
   exact ⟨Cs hx, H⟩
  ·intro L A w up hun hd F H
   refine step_on rfl (Dc if_16 F H (wcmp_c 0#128 G.lim _)) ?_
   rintro xv w' ⟨hx, H⟩
   exact ⟨Cs hx, H⟩
  ·exact SV (fun _ _ _ F _ => Bn bF F rfl rfl rfl (i_gt (decide_eq_false fun h => absurd ((Bd.cmp_gt0 _ _).1 h) (Nat.not_lt.2 (Nat.zero_le _)))))
  ·exact Sa
 ·intro L A w hL F H
  have H := H.pickN 2 0 [0, 1] []
  have F := F.tq [(0, iI G.k), (1, uN n), (5, pT g1 0), (6, nP), (7, iI 0), (8, pT g2 0), (9, iI 0), (20, bF)] rfl
  refine hK5 _ _ (condF F rfl (wp_skip (hK3 _ _ (Sp fun _ kk => ?_))))
  iterate 2 (refine Av F ?_; intro A F)
  refine Zw F (Dc (v := (L129 G n)) if_6 F H (Calls.val (v' := (L129 G n)) (G.jump_c (G.seed n) (G.ok_seed n) 0#128 _) rfl (by rw [G.jump0 _ (G.ok_seed n)]; rfl))) fun A w F H => ?_
  iterate 3 (refine Av F ?_; intro A F)
  refine Zs 0 (L126 G n) sz_35 F H fun A w F H => ?_
  refine Av F fun A F => ?_
  refine Nl kk (Sp fun _ kk => ?_)
  iterate 4 (refine Av F ?_; intro A F)
  refine Zv F (d_build (qs := #[(0, iI G.k), (1, uN n), (2, .agg #[iU 0, iU 0]), (5, (L123 G n))]) (v := .agg #[iI G.k, uN n, iU 0, iU 0, iU 0, iU 0, iU 0, iU 0, iU 0, iU 0, iU 0, iU 0, nS, iI ((G.seed n).k), iU ((G.seed n).m.toNat), iU ((G.seed n).x.a.toNat), iU ((G.seed n).x.b.toNat), iU ((G.seed n).x.c.toNat), iU ((G.seed n).x.d.toNat), uH ((G.seed n).s), uL ((G.seed n).s), uH ((G.seed n).i), uL ((G.seed n).i), uH ((G.seed n).c), uL ((G.seed n).c), iW ((G.seed n).k0.toNat), iW ((G.seed n).k1.toNat), .bool ((G.seed n).b)]) F rfl rfl (by kernel_rfl)) fun A F => ?_
  refine Zb F (d_box F H rfl rfl (L117 G n) rfl) fun g3 A w F H => ?_
  iterate 3 (refine Av F ?_; intro A F)
  refine Nl kk (Wr (ret2 F Tryz.results138 (res_tmp F rfl) (res_tmp F rfl) ?_))
  exact ⟨_, rfl, g3, rfl, H.pickN 3 0 [0] []⟩
theorem cx5011 (H : Sx.Own w0 w bs rs K) : Cq 98 #[iI G.k, uN n, (L128 G)] w fun x w' => ∃ g4 g3 : Nat, x = .tuple #[pT g4 0, iI 0] ∧ Sx.Own w0 w' (Bt g4 [pT g3 0, uH G.lim, uL G.lim] :: Bt g3 (L117 G n) :: bs) rs K := by
 refine En Tryz.func98 Tryz.ntmps98 fun A F => ?_
 refine Sp fun _ kk => Zb F (d_box F H rfl rfl [iU 0, iU 0, uH G.lim, uL G.lim] rfl) fun g1 A w F H => ?_
 iterate 2 (refine Av F ?_; intro A F)
 refine Nl kk (Sp fun _ kk => Av F fun A F => ?_)
 refine Zw F (Dc if_17 F H (G.limit_c _)) fun A w F H => ?_
 refine Zb F (d_alloc H rfl [iU 0, iU 0] zero_26) fun g2 A w F H => ?_
 refine Zs 0 [uH G.lim, uL G.lim] sz_26 F H fun A w F H => ?_
 refine Nl kk (Sx.seq fun K3 hK3 => wp_block (Sp fun _ kk => Av F fun A F => ?_))
 refine Zv F (d_build (qs := #[]) (v := .agg #[iU 0, iU 0]) F rfl rfl (by kernel_rfl)) fun A F => ?_
 refine Zv F (Bn bF F rfl rfl rfl (i_eqV (Bd.lim_ne G))) fun A F => ?_
 refine Av F fun A F => ?_
 refine Nl kk (condF F rfl (Sp fun _ kk => Av F fun A F => ?_))
 refine Zx F (Do if_119 F (cx5005 H)) ?_
 rintro _ w ⟨rfl, H⟩ A F
 refine Zv F (d_un (v := bF) F rfl rfl rfl) fun A F => ?_
 refine Av F fun A F => ?_
 refine Nl kk (condF F rfl (Sp fun _ kk => ?_))
 iterate 3 (refine Av F ?_; intro A F)
 refine Zw F (Dc if_16 F H (wcmp_c G.lim G.lim _)) fun A w F H => ?_
 refine Zv F (Bn bF F rfl rfl rfl (i_gt (decide_eq_false fun h => absurd ((Bd.cmp_gt0 _ _).1 h) (Nat.not_lt.2 (Nat.le_refl _))))) fun A F => ?_
 refine Av F fun A F => ?_
 refine Nl kk (condF F rfl (wp_skip (hK3 _ _ (Sp fun _ kk => ?_))))
 iterate 4 (refine Av F ?_; intro A F)
 refine Zx F (Do if_138 F (cx5010 H)) ?_
 rintro _ w ⟨g3, rfl, H⟩ A F
 iterate 5 (refine Av F ?_; intro A F)
 refine Nl kk (Sx.seq fun K8 hK8 => Sp fun _ kk => ?_)
 iterate 2 (refine Av F ?_; intro A F)
 refine Nl kk (condF F rfl (wp_skip (hK8 _ _ (Sp fun _ kk => ?_))))
 iterate 3 (refine Av F ?_; intro A F)
 refine Zv F (d_build (qs := #[(0, pT g3 0), (1, .agg #[uH G.lim, uL G.lim])]) (v := .agg #[pT g3 0, uH G.lim, uL G.lim]) F rfl rfl (by kernel_rfl)) fun A F => ?_
 refine Zb F (d_box F H rfl rfl [pT g3 0, uH G.lim, uL G.lim] rfl) fun g4 A w F H => ?_
 iterate 2 (refine Av F ?_; intro A F)
 refine Nl kk (Wr (ret2 F Tryz.results98 (res_tmp F rfl) (res_tmp F rfl) ?_))
 exact ⟨_, rfl, g4, g3, rfl, H.pickN 4 0 [0, 1] []⟩
theorem cx5012 (H : Sx.Own w0 w (Bt g1 [nS, iI 0] :: bs) rs K) : Cq 134 #[pT g1 0, iI 0, pT g2 0] w fun x w' => ∃ g4 c1 : Nat, 1 ≤ c1 ∧ x = iI 0 ∧ Sx.Own w0 w' (Bt g1 [sL g4 0 1 c1, iI 1] :: bs) (⟨true, sL g4 0 1 c1, 217, 2, 1, [iI 0, pT g2 0]⟩ :: rs) K := by
 refine En Tryz.func134 Tryz.ntmps134 fun A F => ?_
 refine Sp fun _ kk => Av F fun A F => ?_
 refine Nl kk (Sx.seq fun K2 hK2 => wp_block (Sp fun _ kk => ?_))
 iterate 4 (refine Av F ?_; intro A F)
 refine Zv F (d_lenS el_213 F rfl rfl) fun A F => ?_
 iterate 2 (refine Av F ?_; intro A F)
 refine Nl kk (condF F rfl (Sp fun _ kk => ?_))
 iterate 11 (refine Av F ?_; intro A F)
 refine Nl kk (condF F rfl (wp_skip (hK2 _ _ (Sp fun _ kk => ?_))))
 iterate 7 (refine Av F ?_; intro A F)
 refine Zv F (d_build (qs := #[(0, iI 0), (1, pT g2 0)]) (v := .agg #[iI 0, pT g2 0]) F rfl rfl (by kernel_rfl)) fun A F => ?_
 refine Zg (mk := fun g => sL g 0 1 1) F (d_lit (qs := #[(0, .agg #[iI 0, pT g2 0])]) (cs := #[iI 0, pT g2 0]) (E := 217) F H rfl rfl (fun _ => by kernel_rfl)) fun g3 A w F H => ?_
 have H := Sx.Own.nilR H 217 2
 refine Zr (mk := fun v => v) F (d_append (i := 0) (j := 0) el_213 F H rfl rfl rfl rfl rfl rfl rfl rfl (by decide) (by decide)) fun v1 A w F H => ?_
 obtain ⟨g4, c1, rfl, hbc1, hdc1⟩ := H.open (i := 0) rfl (by decide)
 iterate 2 (refine Av F ?_; intro A F)
 refine Zs 1 [sL g4 0 1 c1, iI 0] sz_213 F H fun A w F H => ?_
 refine Nl kk (Sp fun _ kk => ?_)
 iterate 2 (refine Av F ?_; intro A F)
 refine Zn (iI 1) F fun A F => ?_
 iterate 2 (refine Av F ?_; intro A F)
 refine Zs 1 [sL g4 0 1 c1, iI 1] sz_3 F H fun A w F H => ?_
 refine Nl kk (Sp fun _ kk => Av F fun A F => ?_)
 refine Nl kk (Wr (ret1 F Tryz.results134 (res_tmp F rfl) ?_))
 exact ⟨_, rfl, g4, c1, (by omega), rfl, H.pickN 2 1 [1] [0]⟩
theorem cx5013 (hb : b.toNat ≠ 0) (H : Sx.Own w0 w (Bt g1 [pT g2 0, iI G.k, uN n] :: Bt g2 [nS, iI 0] :: bs) rs K) : Cq 94 #[pT g1 0, iI 0, (L128 G)] w fun x w' => ∃ g9 c1 g5 g6 : Nat, 1 ≤ c1 ∧ x = iI 0 ∧ Sx.Own w0 w' (Bt g1 [pT g2 0, iI G.k, uN n] :: Bt g2 [sL g9 0 1 c1, iI 1] :: Bt g5 [pT g6 0, uH G.lim, uL G.lim] :: Bt g6 (L117 G n) :: bs) (⟨true, sL g9 0 1 c1, 217, 2, 1, [iI 0, pT g5 0]⟩ :: rs) K := by
 refine En Tryz.func94 Tryz.ntmps94 fun A F => ?_
 refine Sp fun _ kk => Zb F (d_box F H rfl rfl [iU 0, iU 0, uH G.lim, uL G.lim] rfl) fun g3 A w F H => ?_
 refine Av F fun A F => ?_
 refine Nl kk (Sp fun _ kk => ?_)
 iterate 4 (refine Av F ?_; intro A F)
 refine Zw F (Dc if_17 F H (G.limit_c _)) fun A w F H => ?_
 refine Zb F (d_alloc H rfl [iU 0, iU 0] zero_26) fun g4 A w F H => ?_
 refine Zs 0 [uH G.lim, uL G.lim] sz_26 F H fun A w F H => ?_
 refine Nl kk (Sx.seq fun K3 hK3 => wp_block (Sp fun _ kk => Av F fun A F => ?_))
 refine Zx F (Do if_119 F (cx5005 H)) ?_
 rintro _ w ⟨rfl, H⟩ A F
 refine Zv F (d_un (v := bF) F rfl rfl rfl) fun A F => ?_
 iterate 4 (refine Av F ?_; intro A F)
 refine Zw F (Dc if_16 F H (wcmp_c G.lim G.lim _)) fun A w F H => ?_
 refine Zv F (Bn bF F rfl rfl rfl (i_gt (decide_eq_false fun h => absurd ((Bd.cmp_gt0 _ _).1 h) (Nat.not_lt.2 (Nat.le_refl _))))) fun A F => ?_
 iterate 2 (refine Av F ?_; intro A F)
 refine Nl kk (condF F rfl (Sp fun _ kk => Av F fun A F => ?_))
 have H := H.pickN 4 0 [2, 3, 0, 1] []
 refine Zx F (Do if_56 F (cx5007 H)) ?_
 rintro _ w ⟨rfl, H⟩ A F
 refine Zv F (d_mkFunc (fv := []) (cv := [pT g3 0]) F rfl rfl rfl) fun A F => ?_
 refine Zx F (Do if_131 F (cx5009 H)) ?_
 rintro _ w ⟨rfl, H⟩ A F
 refine Av F fun A F => ?_
 refine Nl kk (condF F rfl (wp_skip (hK3 _ _ (Sx.seq fun K6 hK6 => ?_))))
 have F := F.tq [(0, pT g1 0), (1, iI 0), (5, pT g3 0), (6, iI 0)] rfl
 have H := H.pickN 4 0 [0, 1, 3] []
 refine Dn F [some (pT g1 0), some (pT g1 0), some (pT g1 1), some (iI G.k), some (pT g1 0), some (pT g1 0), some (pT g1 2), some (uN n), some (L128 G), none, none, none, some (iI 0), none, some (iI 0)] (fun L A w => ∃ g5 : Nat, ∃ g6 : Nat, (L 9 = true → A.eval (.tmp 41) = .tuple #[pT g5 0, iI 0]) ∧ (L 10 = true → A.eval (.tmp 31) = .tuple #[pT g5 0, iI 0]) ∧ (L 11 = true → A.eval (.tmp 42) = pT g5 0) ∧ (L 13 = true → A.eval (.tmp 8) = pT g5 0) ∧ Sx.Own w0 w ((L 9, g5, [pT g6 0, uH G.lim, uL G.lim]) :: (L 9, g6, (L117 G n)) :: Bt g1 [pT g2 0, iI G.k, uN n] :: Bt g2 [nS, iI 0] :: Bt g3 [iU 0, iU 0, uH G.lim, uL G.lim] :: bs) rs K) ⟨0, 0, (fun h => by cases h), (fun h => by cases h), (fun h => by cases h), (fun h => by cases h), H.drew.padG [(false, 0, [pT 0 0, uH G.lim, uL G.lim]), (false, 0, (L117 G n))] [] rfl rfl⟩ ?_ ?_
 ·refine ⟨?_, ?_, ?_, ?_, ?_, ?_, ?_, ?_, ?_, ?_, ?_, ?_, ?_, ?_, ?_, trivial⟩
  ·intro L A w up hun hd F ⟨g5, g6, p9, p10, p11, p13, H⟩
   have f1 : L 1 = false := up 1 0 rfl hun
   have f2 : L 2 = false := up 2 1 rfl f1
   have f3 : L 3 = false := up 3 2 rfl f2
   have f9 : L 9 = false := up 9 3 rfl f3
   have f10 : L 10 = false := up 10 9 rfl f9
   have f11 : L 11 = false := up 11 10 rfl f10
   have f13 : L 13 = false := up 13 0 rfl hun
   have Hj := H; rw [f9] at Hj
   refine step_on rfl (d_move F (Or.inl rfl) rfl) ?_
   rintro xv w' ⟨hx, rfl⟩
   exact ⟨Cs hx, ⟨g5, g6, Nf f9, Nf f10, Nf f11, Nf f13, H⟩⟩
  ·intro L A w up hun hd F ⟨g5, g6, p9, p10, p11, p13, H⟩
   have f2 : L 2 = false := up 2 1 rfl hun
   have f3 : L 3 = false := up 3 2 rfl f2
   have f9 : L 9 = false := up 9 3 rfl f3
   have f10 : L 10 = false := up 10 9 rfl f9
   have f11 : L 11 = false := up 11 10 rfl f10
   have f13 : L 13 = false := up 13 1 rfl hun
   have Hj := H; rw [f9] at Hj
   refine step_on rfl (d_nil F rfl rfl) ?_
   rintro xv w' ⟨hx, rfl⟩
   exact ⟨Cs hx, ⟨g5, g6, Nf f9, Nf f10, Nf f11, Nf f13, H⟩⟩
  ·intro L A w up hun hd F ⟨g5, g6, p9, p10, p11, p13, H⟩
   have f3 : L 3 = false := up 3 2 rfl hun
   have f9 : L 9 = false := up 9 3 rfl f3
   have f10 : L 10 = false := up 10 9 rfl f9
   have f11 : L 11 = false := up 11 10 rfl f10
   have f13 : L 13 = false := up 13 2 rfl hun
   have Hj := H; rw [f9] at Hj
   refine step_on rfl (Fd F (fa_160_1.default.h _ _ _)) ?_
   rintro xv w' ⟨hx, rfl⟩
   exact ⟨Cs hx, ⟨g5, g6, Nf f9, Nf f10, Nf f11, Nf f13, H⟩⟩
  ·intro L A w up hun hd F ⟨g5, g6, p9, p10, p11, p13, H⟩
   have f9 : L 9 = false := up 9 3 rfl hun
   have f10 : L 10 = false := up 10 9 rfl f9
   have f11 : L 11 = false := up 11 10 rfl f10
   have f13 : L 13 = false := up 13 3 rfl hun
   have Hj := H; rw [f9] at Hj
   refine step_on rfl (Ld 2 one_3 F Hj) ?_
   rintro xv w' ⟨hx, rfl⟩
   exact ⟨Cs hx, ⟨g5, g6, Nf f9, Nf f10, Nf f11, Nf f13, H⟩⟩
  ·intro L A w up hun hd F ⟨g5, g6, p9, p10, p11, p13, H⟩
   have f5 : L 5 = false := up 5 4 rfl hun
   have f6 : L 6 = false := up 6 5 rfl f5
   have f7 : L 7 = false := up 7 6 rfl f6
   have f9 : L 9 = false := up 9 7 rfl f7
   have f10 : L 10 = false := up 10 9 rfl f9
   have f11 : L 11 = false := up 11 10 rfl f10
   have f13 : L 13 = false := up 13 4 rfl hun
   have Hj := H; rw [f9] at Hj
   refine step_on rfl (d_move F (Or.inl rfl) rfl) ?_
   rintro xv w' ⟨hx, rfl⟩
   exact ⟨Cs hx, ⟨g5, g6, Nf f9, Nf f10, Nf f11, Nf f13, H⟩⟩
  ·intro L A w up hun hd F ⟨g5, g6, p9, p10, p11, p13, H⟩
   have f6 : L 6 = false := up 6 5 rfl hun
   have f7 : L 7 = false := up 7 6 rfl f6
   have f9 : L 9 = false := up 9 7 rfl f7
   have f10 : L 10 = false := up 10 9 rfl f9
   have f11 : L 11 = false := up 11 10 rfl f10
   have f13 : L 13 = false := up 13 5 rfl hun
   have Hj := H; rw [f9] at Hj
   refine step_on rfl (d_nil F rfl rfl) ?_
   rintro xv w' ⟨hx, rfl⟩
   exact ⟨Cs hx, ⟨g5, g6, Nf f9, Nf f10, Nf f11, Nf f13, H⟩⟩
  ·intro L A w up hun hd F ⟨g5, g6, p9, p10, p11, p13, H⟩
   have f7 : L 7 = false := up 7 6 rfl hun
   have f9 : L 9 = false := up 9 7 rfl f7
   have f10 : L 10 = false := up 10 9 rfl f9
   have f11 : L 11 = false := up 11 10 rfl f10
   have f13 : L 13 = false := up 13 6 rfl hun
   have Hj := H; rw [f9] at Hj
   refine step_on rfl (Fd F (fa_160_2.default.h _ _ _)) ?_
   rintro xv w' ⟨hx, rfl⟩
   exact ⟨Cs hx, ⟨g5, g6, Nf f9, Nf f10, Nf f11, Nf f13, H⟩⟩
  ·intro L A w up hun hd F ⟨g5, g6, p9, p10, p11, p13, H⟩
   have f9 : L 9 = false := up 9 7 rfl hun
   have f10 : L 10 = false := up 10 9 rfl f9
   have f11 : L 11 = false := up 11 10 rfl f10
   have f13 : L 13 = false := up 13 7 rfl hun
   have Hj := H; rw [f9] at Hj
   refine step_on rfl (Ld 2 one_22 F Hj) ?_
   rintro xv w' ⟨hx, rfl⟩
   exact ⟨Cs hx, ⟨g5, g6, Nf f9, Nf f10, Nf f11, Nf f13, H⟩⟩
  ·intro L A w up hun hd F ⟨g5, g6, p9, p10, p11, p13, H⟩
   have f9 : L 9 = false := up 9 8 rfl hun
   have f10 : L 10 = false := up 10 9 rfl f9
   have f11 : L 11 = false := up 11 10 rfl f10
   have f13 : L 13 = false := up 13 8 rfl hun
   have Hj := H; rw [f9] at Hj
   refine step_on rfl (Lr 4 [iU 0, iU 0, uH G.lim, uL G.lim] rw_79 F Hj) ?_
   rintro xv w' ⟨hx, rfl⟩
   exact ⟨Cs hx, ⟨g5, g6, Nf f9, Nf f10, Nf f11, Nf f13, H⟩⟩
  ·intro L A w up hun hd F ⟨g5, g6, p9, p10, p11, p13, H⟩
   have f9 : L 9 = false := hun
   have f10 : L 10 = false := up 10 9 rfl hun
   have f11 : L 11 = false := up 11 10 rfl f10
   have f13 : L 13 = false := up 13 9 rfl hun
   rw [f9] at H
   have H : Sx.Own w0 w ((false, g5, [pT g6 0, uH G.lim, uL G.lim]) :: (false, g6, (L117 G n)) :: Bt g1 [pT g2 0, iI G.k, uN n] :: Bt g2 [nS, iI 0] :: Bt g3 [iU 0, iU 0, uH G.lim, uL G.lim] :: bs) rs K := H
   refine step_on rfl (Do if_98 F (cx5011 H)) ?_
   rintro xv w' ⟨g7, g8, hx, H⟩
   have H := H.pickN 7 0 [0, 1, 4, 5, 6] []
   exact ⟨Cn, ⟨g7, g8, (fun _ => (Sx.put_same F (by decide) _).trans hx), Nf f10, Nf f11, Nf f13, H⟩⟩
  ·intro L A w up hun hd F ⟨g5, g6, p9, p10, p11, p13, H⟩
   have t9 : L 9 = true := hd 9 rfl
   have f10 : L 10 = false := hun
   have f11 : L 11 = false := up 11 10 rfl hun
   have f13 : L 13 = false := up 13 10 rfl hun
   have Hj := H; rw [t9] at Hj
   have F := Fr.add F (p9 t9)
   refine step_on rfl (d_move F (Or.inl rfl) rfl) ?_
   rintro xv w' ⟨hx, rfl⟩
   exact ⟨Cn, ⟨g5, g6, Pk p9, (fun _ => (Sx.put_same F (by decide) _).trans hx), Nf f11, Nf f13, H⟩⟩
  ·intro L A w up hun hd F ⟨g5, g6, p9, p10, p11, p13, H⟩
   have t9 : L 9 = true := by
    cases hb : L 9 with
    | true => rfl
    | false =>
     have hb10 := up 10 9 rfl hb
     rw [hd 10 rfl] at hb10; cases hb10
   have t10 : L 10 = true := hd 10 rfl
   have f11 : L 11 = false := hun
   have f13 : L 13 = false := up 13 11 rfl hun
   have Hj := H; rw [t9] at Hj
   have F := Fr.add F (p9 t9)
   have F := Fr.add F (p10 t10)
   refine step_on rfl (d_extract (v := pT g5 0) F rfl rfl rfl) ?_
   rintro xv w' ⟨hx, rfl⟩
   exact ⟨Cn, ⟨g5, g6, Pk p9, Pk p10, (fun _ => (Sx.put_same F (by decide) _).trans hx), Nf f13, H⟩⟩
  ·intro L A w up hun hd F ⟨g5, g6, p9, p10, p11, p13, H⟩
   have t9 : L 9 = true := by
    cases hb : L 9 with
    | true => rfl
    | false =>
     have hb10 := up 10 9 rfl hb
     rw [hd 10 rfl] at hb10; cases hb10
   have t10 : L 10 = true := hd 10 rfl
   have Hj := H; rw [t9] at Hj
   have F := Fr.add F (p9 t9)
   have F := Fr.add F (p10 t10)
   refine step_on rfl (d_extract (v := iI 0) F rfl rfl rfl) ?_
   rintro xv w' ⟨hx, rfl⟩
   exact ⟨Cs hx, ⟨g5, g6, Pk p9, Pk p10, Pk p11, Pk p13, H⟩⟩
  ·intro L A w up hun hd F ⟨g5, g6, p9, p10, p11, p13, H⟩
   have t9 : L 9 = true := hd 9 rfl
   have t10 : L 10 = true := hd 10 rfl
   have t11 : L 11 = true := hd 11 rfl
   have f13 : L 13 = false := hun
   have Hj := H; rw [t9] at Hj
   have F := Fr.add F (p9 t9)
   have F := Fr.add F (p10 t10)
   have F := Fr.add F (p11 t11)
   refine step_on rfl (d_move F (Or.inr rfl) rfl) ?_
   rintro xv w' ⟨hx, rfl⟩
   exact ⟨Cn, ⟨g5, g6, Pk p9, Pk p10, Pk p11, (fun _ => (Sx.put_same F (by decide) _).trans hx), H⟩⟩
  ·intro L A w up hun hd F ⟨g5, g6, p9, p10, p11, p13, H⟩
   have t9 : L 9 = true := hd 9 rfl
   have t10 : L 10 = true := hd 10 rfl
   have t11 : L 11 = true := hd 11 rfl
   have t13 : L 13 = true := hd 13 rfl
   have Hj := H; rw [t9] at Hj
   have F := Fr.add F (p9 t9)
   have F := Fr.add F (p10 t10)
   have F := Fr.add F (p11 t11)
   have F := Fr.add F (p13 t13)
   refine step_on rfl (d_move F (Or.inr rfl) rfl) ?_
   rintro xv w' ⟨hx, rfl⟩
   exact ⟨Cs hx, ⟨g5, g6, Pk p9, Pk p10, Pk p11, Pk p13, H⟩⟩
 ·intro L A w hL F ⟨g5, g6, p9, p10, p11, p13, H⟩
  have t9 : L 9 = true := hL 9 rfl
  have t10 : L 10 = true := hL 10 rfl
  have t11 : L 11 = true := hL 11 rfl
  have t13 : L 13 = true := hL 13 rfl
  rw [t9] at H
  have F := Fr.add F (p9 t9)
  have F := Fr.add F (p10 t10)
  have F := Fr.add F (p11 t11)
  have F := Fr.add F (p13 t13)
  have H := H.pickN 5 0 [0, 1, 2, 3, 4] []
  have F := F.tq [(0, pT g1 0), (1, iI 0), (6, iI 0), (8, pT g5 0), (9, iI 0)] rfl
  refine hK6 _ _ (Sx.seq fun K7 hK7 => Sp fun _ kk => ?_)
  iterate 2 (refine Av F ?_; intro A F)
  refine Nl kk (condF F rfl (wp_skip (hK7 _ _ (Sp fun _ kk => ?_))))
  iterate 6 (refine Av F ?_; intro A F)
  have H := H.pickN 5 0 [3, 0, 1, 2, 4] []
  refine Zx F (Do if_134 F (cx5012 H)) ?_
  rintro _ w ⟨g9, c1, hbc1, rfl, H⟩ A F
  refine Av F fun A F => ?_
  refine Nl kk (Wr (ret1 F Tryz.results94 (res_tmp F rfl) ?_))
  exact ⟨_, rfl, g9, c1, g5, g6, (by omega), rfl, H.pickN 5 1 [3, 0, 1, 2] [0]⟩
theorem cx5014 (hb : b.toNat ≠ 0) (H : Sx.Own w0 w bs rs K) : Cq 71 #[iI G.k, uN n] w fun x w' => ∃ g1 g2 g3 c1 g4 g5 : Nat, 1 ≤ c1 ∧ x = .tuple #[pT g1 0, iI 0] ∧ Sx.Own w0 w' (Bt g1 [pT g2 0, iI G.k, uN n] :: Bt g2 [sL g3 0 1 c1, iI 1] :: Bt g4 [pT g5 0, uH G.lim, uL G.lim] :: Bt g5 (L117 G n) :: bs) (⟨true, sL g3 0 1 c1, 217, 2, 1, [iI 0, pT g4 0]⟩ :: rs) K := by
 refine En Tryz.func71 Tryz.ntmps71 fun A F => ?_
 refine Sp fun _ kk => ?_
 iterate 2 (refine Av F ?_; intro A F)
 refine Nl kk (Sp fun _ kk => ?_)
 iterate 2 (refine Av F ?_; intro A F)
 refine Zx F (Do if_93 F (cx5004 H)) ?_
 rintro _ w ⟨g1, g2, rfl, H⟩ A F
 iterate 5 (refine Av F ?_; intro A F)
 refine Nl kk (Sx.seq fun K3 hK3 => Sp fun _ kk => ?_)
 iterate 2 (refine Av F ?_; intro A F)
 refine Nl kk (condF F rfl (wp_skip (hK3 _ _ (Sp fun _ kk => ?_))))
 iterate 3 (refine Av F ?_; intro A F)
 refine Zw F (Dc if_17 F H (G.limit_c _)) fun A w F H => ?_
 refine Zv F (d_build (qs := #[(1, .agg #[uH G.lim, uL G.lim])]) (v := (L128 G)) F rfl rfl (by kernel_rfl)) fun A F => ?_
 refine Zx F (Do if_94 F (cx5013 hb H)) ?_
 rintro _ w ⟨g3, c1, g4, g5, hbc1, rfl, H⟩ A F
 iterate 2 (refine Av F ?_; intro A F)
 refine Nl kk (Wr (ret2 F Tryz.results71 (res_tmp F rfl) (res_tmp F rfl) ?_))
 exact ⟨_, rfl, g1, g2, g3, c1, g4, g5, (by omega), rfl, H.pickN 4 1 [0, 1, 2, 3] [0]⟩
theorem cx5015 (H : Sx.Own w0 w (Bt g1 [nP] :: bs) rs K) : Cr 70 #[pT g1 0, pT g2 0, iI 0] w0 w (.agg #[iI 0, iU 0, nS, nS, iI 0]) (Bt g1 [pT g2 0] :: bs) rs K := by
 refine En Tryz.func70 Tryz.ntmps70 fun A F => ?_
 refine Sp fun _ kk => Zb F (d_alloc H rfl [iI 0, iU 0, nS, nS, iI 0] zero_68) fun g3 A w F H => ?_
 refine Nl kk (Sx.seq fun K2 hK2 => Sp fun _ kk => ?_)
 iterate 2 (refine Av F ?_; intro A F)
 refine Nl kk (condT F rfl (Sx.plain ?_))
 iterate 4 (refine Av F ?_; intro A F)
 refine Zs 1 [pT g2 0] sz_114 F H fun A w F H => ?_
 refine Sx.nil (hK2 _ _ (Sp fun _ kk => Av F fun A F => ?_))
 refine Zv F (d_build (qs := #[(4, iI 0)]) (v := .agg #[iI 0, iU 0, nS, nS, iI 0]) F rfl rfl (by kernel_rfl)) fun A F => ?_
 refine Zs 0 [iI 0, iU 0, nS, nS, iI 0] sz_68 F H fun A w F H => ?_
 refine Nl kk (Wr (ret1 F Tryz.results70 (res_row (i := 0) (xs := [iI 0, iU 0, nS, nS, iI 0]) rw_68 F H rfl rfl rfl rfl) ?_))
 exact ⟨_, rfl, rfl, H.pickN 2 0 [1] []⟩
abbrev L130 (x0 : Bd.Gen) (x1 : BitVec 64) : Value := .agg #[iI 0, iI 0, iI 0, iI x0.k, uN x1, iU 0, iU 0, iU 0, nS]
theorem cx5016 (hb : b.toNat ≠ 0) (H : Sx.Own w0 w (Bt g1 [nP] :: bs) rs K) : Cq 43 #[pT g1 0, (L130 G n)] w fun x w' => ∃ g4 g5 g6 c1 g7 g8 : Nat, 1 ≤ c1 ∧ x = .agg #[iI 0, iU 0, nS, nS, iI 0] ∧ Sx.Own w0 w' (Bt g1 [pT g4 0] :: Bt g4 [pT g5 0, iI G.k, uN n] :: Bt g5 [sL g6 0 1 c1, iI 1] :: Bt g7 [pT g8 0, uH G.lim, uL G.lim] :: Bt g8 (L117 G n) :: bs) (⟨true, sL g6 0 1 c1, 217, 2, 1, [iI 0, pT g7 0]⟩ :: rs) K := by
 refine En Tryz.func43 Tryz.ntmps43 fun A F => ?_
 refine Sp fun _ kk => Zb F (d_box F H rfl rfl [iI 0, iI 0, iI 0, iI G.k, uN n, iU 0, iU 0, iU 0, nS] rfl) fun g2 A w F H => ?_
 refine Zb F (d_alloc H rfl [iI 0, iU 0, nS, nS, iI 0] zero_68) fun g3 A w F H => ?_
 refine Nl kk (Sp fun _ kk => ?_)
 iterate 5 (refine Av F ?_; intro A F)
 refine Zx F (Do if_71 F (cx5014 hb H)) ?_
 rintro _ w ⟨g4, g5, g6, c1, g7, g8, hbc1, rfl, H⟩ A F
 iterate 2 (refine Av F ?_; intro A F)
 have H := H.pickN 7 1 [6, 0, 1, 2, 3, 4, 5] [0]
 refine Zx F (Do if_70 F (cx5015 H)) ?_
 rintro _ w ⟨rfl, H⟩ A F
 refine Zs 5 [iI 0, iU 0, nS, nS, iI 0] sz_68 F H fun A w F H => ?_
 refine Nl kk (Wr (ret1 F Tryz.results43 (res_row (i := 5) (xs := [iI 0, iU 0, nS, nS, iI 0]) rw_68 F H rfl rfl rfl rfl) ?_))
 exact ⟨_, rfl, g4, g5, g6, c1, g7, g8, (by omega), rfl, H.pickN 7 1 [0, 1, 2, 3, 4] [0]⟩
theorem cx5017 (hb : b.toNat ≠ 0) (H : Sx.Own w0 w (Bt g1 [nP] :: bs) rs K) : Cq 19 #[pT g1 0, (L130 G n)] w fun x w' => ∃ g4 g5 g6 c1 g7 g8 : Nat, 1 ≤ c1 ∧ x = .agg #[iI 0, iU 0, nS, nS, iI 0] ∧ Sx.Own w0 w' (Bt g1 [pT g4 0] :: Bt g4 [pT g5 0, iI G.k, uN n] :: Bt g5 [sL g6 0 1 c1, iI 1] :: Bt g7 [pT g8 0, uH G.lim, uL G.lim] :: Bt g8 (L117 G n) :: bs) (⟨true, sL g6 0 1 c1, 217, 2, 1, [iI 0, pT g7 0]⟩ :: rs) K := by
 refine En Tryz.func19 Tryz.ntmps19 fun A F => ?_
 refine Sp fun _ kk => Zb F (d_box F H rfl rfl [iI 0, iI 0, iI 0, iI G.k, uN n, iU 0, iU 0, iU 0, nS] rfl) fun g2 A w F H => ?_
 refine Zb F (d_alloc H rfl [iI 0, iU 0, nS, nS, iI 0] zero_68) fun g3 A w F H => ?_
 refine Nl kk (Sx.seq fun K2 hK2 => ask_map F H ?_)
 intro A w mr mo10 hmK hmo F H
 refine hK2 _ _ (Sp fun _ kk => ?_)
 iterate 3 (refine Av F ?_; intro A F)
 refine Zv F (d_lookup (kt := 3) (et := 117) (z := .nilFunc) (v := .func (.func 43) #[] #[]) (b := true) (by kernel_rfl) (by kernel_rfl) (fun _ => by kernel_rfl) F H rfl rfl rfl (if_pos rfl) hmo rfl) fun A F => ?_
 have H := H.unkeep1 hmK
 iterate 5 (refine Av F ?_; intro A F)
 refine Nl kk (Sx.seq fun K4 hK4 => wp_block (Sp fun _ kk => Av F fun A F => ?_))
 refine Zv F (d_un (v := bF) F rfl rfl rfl) fun A F => ?_
 refine Av F fun A F => ?_
 refine Nl kk (condF F rfl (Sp fun _ kk => Av F fun A F => ?_))
 have H := H.pickN 3 0 [2, 0, 1] []
 refine Zx F (Do if_53 F (cx5002 H)) ?_
 rintro _ w ⟨rfl, H⟩ A F
 iterate 6 (refine Av F ?_; intro A F)
 refine su F (wanted_off rfl (guard_known (d := 29) (b := false) F rfl rfl) rfl) rfl (by decide) (fun A F => ?_)
 refine su F (wanted_off rfl (guard_known (d := 29) (b := false) F rfl rfl) rfl) rfl (by decide) (fun A F => ?_)
 refine su F (wanted_off rfl (guard_known (d := 29) (b := false) F rfl rfl) rfl) rfl (by decide) (fun A F => ?_)
 iterate 2 (refine Av F ?_; intro A F)
 refine Nl kk (condF F rfl (wp_skip (hK4 _ _ (Sp fun _ kk => ?_))))
 iterate 3 (refine Av F ?_; intro A F)
 refine Zx F (d_callCO (fv := []) (vs := [pT g1 0, (L130 G n)]) (cv := []) if_43 F rfl rfl rfl (cx5016 hb H)) ?_
 rintro _ w ⟨g4, g5, g6, c1, g7, g8, hbc1, rfl, H⟩ A F
 refine Zs 5 [iI 0, iU 0, nS, nS, iI 0] sz_68 F H fun A w F H => ?_
 refine Nl kk (Wr (ret1 F Tryz.results19 (res_row (i := 5) (xs := [iI 0, iU 0, nS, nS, iI 0]) rw_68 F H rfl rfl rfl rfl) ?_))
 exact ⟨_, rfl, g4, g5, g6, c1, g7, g8, (by omega), rfl, H.pickN 7 1 [0, 1, 2, 3, 4] [0]⟩
theorem cx5018 (H : Sx.Own w0 w (Bt g1 [pT g2 0] :: bs) rs K) : Cr 53 #[pT g1 0] w0 w bF (Bt g1 [pT g2 0] :: bs) rs K := by
 refine En Tryz.func53 Tryz.ntmps53 fun A F => ?_
 refine Sp fun _ kk => Av F fun A F => ?_
 refine Nl kk (Sp fun _ kk => ?_)
 iterate 4 (refine Av F ?_; intro A F)
 refine Zn bF F fun A F => ?_
 refine Av F fun A F => ?_
 refine Nl kk (Wr (ret1 F Tryz.results53 (res_tmp F rfl) ?_))
 exact ⟨_, rfl, rfl, H.pickN 1 0 [0] []⟩
theorem cx5019 (H : Sx.Own w0 w bs rs K) : Cr 152 #[.agg #[iI 0, pT g1 0], iI 0] w0 w (iI 0) bs rs K := by
 refine En Tryz.func152 Tryz.ntmps152 fun A F => ?_
 refine Sp fun _ kk => Zb F (d_box F H rfl rfl [iI 0, pT g1 0] rfl) fun g2 A w F H => ?_
 refine Av F fun A F => ?_
 refine Nl kk (Sp fun _ kk => ?_)
 iterate 3 (refine Av F ?_; intro A F)
 refine Zv F (d_max (r := 0) F rfl rfl rfl (by decide)) fun A F => ?_
 refine Zv F (d_min (r := 0) F rfl rfl rfl (by decide)) fun A F => ?_
 refine Zn (iI 0) F fun A F => ?_
 refine Av F fun A F => ?_
 refine Nl kk (Wr (ret1 F Tryz.results152 (res_tmp F rfl) ?_))
 exact ⟨_, rfl, rfl, H.pickN 1 0 [] []⟩
theorem cx5020 (hbc1 : 1 ≤ c1) (H : Sx.Own w0 w (bs) (⟨true, sL g1 0 1 c1, 217, 2, 1, [iI 0, pT g2 0]⟩ :: rs) K) : Cr 151 #[sL g1 0 1 c1, iI 0, .func (.func 152) #[] #[]] w0 w (.tuple #[iI 0, bT]) (bs) (⟨true, sL g1 0 1 c1, 217, 2, 1, [iI 0, pT g2 0]⟩ :: rs) K := by
 refine En Tryz.func151 Tryz.ntmps151 fun A F => ?_
 refine Sp fun _ kk => ?_
 iterate 2 (refine Av F ?_; intro A F)
 refine Nl kk (Sp fun _ kk => Av F fun A F => ?_)
 refine Zv F (d_lenS el_213 F rfl rfl) fun A F => ?_
 refine Av F fun A F => ?_
 refine Nl kk (Sp fun _ kk => ?_)
 iterate 3 (refine Av F ?_; intro A F)
 refine Nl kk (Sx.seq fun K4 hK4 => wp_block (wp_loop_rounds 40 ?_))
 refine Rs ?_
 refine Sx.seq fun K5 hK5 => Sp fun _ kk => ?_
 iterate 3 (refine Av F ?_; intro A F)
 refine Nl kk (condT F rfl (wp_skip (hK5 _ _ (wp_block (Sp fun _ kk => ?_)))))
 iterate 2 (refine Av F ?_; intro A F)
 refine Zn (iI 1) F fun A F => ?_
 refine Zv F (d_conv (v := iU 1) F rfl rfl (by kernel_rfl)) fun A F => ?_
 refine Zn (iU 0) F fun A F => ?_
 refine Zv F (d_conv (v := iI 0) F rfl rfl (by kernel_rfl)) fun A F => ?_
 refine Av F fun A F => ?_
 refine Nl kk (Sp fun _ kk => ?_)
 iterate 3 (refine Av F ?_; intro A F)
 refine Zv F (d_ixZ (k := 0) (g := g1) (off := 0) (z := 2) el_213 F rfl rfl rfl rfl rfl (by omega)) fun A F => ?_
 refine Zv F (Lr 0 [iI 0, pT g2 0] rw_217 F (H.rowBox (i := 0) rfl)) fun A F => ?_
 refine Av F fun A F => ?_
 refine Zx F (d_callCO (fv := []) (vs := [.agg #[iI 0, pT g2 0], iI 0]) (cv := []) if_152 F rfl rfl rfl (cx5019 H)) ?_
 rintro _ w ⟨rfl, H⟩ A F
 refine Av F fun A F => ?_
 refine Nl kk (condF F rfl (Sx.plain ?_))
 iterate 2 (refine Av F ?_; intro A F)
 refine Sx.nil (Rs ?_)
 refine Sx.seq fun K9 hK9 => Sp fun _ kk => ?_
 iterate 3 (refine Av F ?_; intro A F)
 refine Nl kk (condF F rfl (wp_exit ?_))
 try dsimp only [Exit.then, Exit.jump, Exit.noGoto]
 refine exit_here (hK4 _ _ (Sp fun _ kk => ?_))
 iterate 8 (refine Av F ?_; intro A F)
 refine Zv F (d_ixZ (k := 0) (g := g1) (off := 0) (z := 2) el_213 F rfl rfl rfl rfl rfl (by omega)) fun A F => ?_
 refine Zv F (Lr 0 [iI 0, pT g2 0] rw_217 F (H.rowBox (i := 0) rfl)) fun A F => ?_
 refine Av F fun A F => ?_
 refine Zx F (d_callCO (fv := []) (vs := [.agg #[iI 0, pT g2 0], iI 0]) (cv := []) if_152 F rfl rfl rfl (cx5019 H)) ?_
 rintro _ w ⟨rfl, H⟩ A F
 iterate 4 (refine Av F ?_; intro A F)
 refine Nl kk (Wr (ret2 F Tryz.results151 (res_tmp F rfl) (res_tmp F rfl) ?_))
 exact ⟨_, rfl, rfl, H.pickN 0 1 [] [0]⟩
theorem cx5021 (hbc1 : 1 ≤ c1) (H : Sx.Own w0 w (Bt g1 [sL g2 0 1 c1, iI 1] :: bs) (⟨true, sL g2 0 1 c1, 217, 2, 1, [iI 0, pT g3 0]⟩ :: rs) K) : Cr 123 #[pT g1 0, iI 0] w0 w (.tuple #[iI 0, bT]) (Bt g1 [sL g2 0 1 c1, iI 1] :: bs) (⟨true, sL g2 0 1 c1, 217, 2, 1, [iI 0, pT g3 0]⟩ :: rs) K := by
 refine En Tryz.func123 Tryz.ntmps123 fun A F => ?_
 refine Sp fun _ kk => ?_
 iterate 2 (refine Av F ?_; intro A F)
 refine Nl kk (Sp fun _ kk => ?_)
 iterate 5 (refine Av F ?_; intro A F)
 refine Zx F (Do if_151 F (cx5020 (by omega) H)) ?_
 rintro _ w ⟨rfl, H⟩ A F
 iterate 4 (refine Av F ?_; intro A F)
 refine Nl kk (Wr (ret2 F Tryz.results123 (res_tmp F rfl) (res_tmp F rfl) ?_))
 exact ⟨_, rfl, rfl, H.pickN 1 1 [0] [0]⟩
theorem cx5022 (hbc1 : 1 ≤ c1) (H : Sx.Own w0 w (Bt g1 [sL g2 0 1 c1, iI 1] :: bs) (⟨true, sL g2 0 1 c1, 217, 2, 1, [iI 0, pT g3 0]⟩ :: rs) K) : Cr 83 #[pT g1 0, iI 0] w0 w (.tuple #[pT g3 0, bT]) (Bt g1 [sL g2 0 1 c1, iI 1] :: bs) (⟨true, sL g2 0 1 c1, 217, 2, 1, [iI 0, pT g3 0]⟩ :: rs) K := by
 refine En Tryz.func83 Tryz.ntmps83 fun A F => ?_
 refine Sp fun _ kk => ?_
 iterate 2 (refine Av F ?_; intro A F)
 refine Nl kk (Sp fun _ kk => ?_)
 iterate 2 (refine Av F ?_; intro A F)
 refine Zx F (Do if_123 F (cx5021 (by omega) H)) ?_
 rintro _ w ⟨rfl, H⟩ A F
 iterate 5 (refine Av F ?_; intro A F)
 refine Nl kk (Sx.seq fun K3 hK3 => Sp fun _ kk => Av F fun A F => ?_)
 refine Zv F (d_un (v := bF) F rfl rfl rfl) fun A F => ?_
 refine Nl kk (condF F rfl (wp_skip (hK3 _ _ (Sp fun _ kk => ?_))))
 iterate 5 (refine Av F ?_; intro A F)
 refine Zv F (d_ixZ (k := 0) (g := g2) (off := 0) (z := 2) el_213 F rfl rfl rfl rfl rfl (by omega)) fun A F => ?_
 refine Av F fun A F => ?_
 refine Zv F (Ld 0 one_161 F (H.rowBox (i := 0) rfl)) fun A F => ?_
 iterate 2 (refine Av F ?_; intro A F)
 refine Nl kk (Wr (ret2 F Tryz.results83 (res_tmp F rfl) (res_tmp F rfl) ?_))
 exact ⟨_, rfl, rfl, H.pickN 1 1 [0] [0]⟩
theorem cx5023 (hbc1 : 1 ≤ c1) (H : Sx.Own w0 w (Bt g1 [pT g2 0, iI G.k, uN n] :: Bt g2 [sL g3 0 1 c1, iI 1] :: bs) (⟨true, sL g3 0 1 c1, 217, 2, 1, [iI 0, pT g4 0]⟩ :: rs) K) : Cr 95 #[pT g1 0, iI 0] w0 w (.tuple #[pT g4 0, iI 0]) (Bt g1 [pT g2 0, iI G.k, uN n] :: Bt g2 [sL g3 0 1 c1, iI 1] :: bs) (⟨true, sL g3 0 1 c1, 217, 2, 1, [iI 0, pT g4 0]⟩ :: rs) K := by
 refine En Tryz.func95 Tryz.ntmps95 fun A F => ?_
 refine Sp fun _ kk => ?_
 iterate 2 (refine Av F ?_; intro A F)
 refine Nl kk (Sp fun _ kk => ?_)
 iterate 5 (refine Av F ?_; intro A F)
 have H := H.pickN 2 1 [1, 0] [0]
 refine Zx F (Do if_83 F (cx5022 (by omega) H)) ?_
 rintro _ w ⟨rfl, H⟩ A F
 iterate 5 (refine Av F ?_; intro A F)
 refine Nl kk (Sx.seq fun K3 hK3 => Sp fun _ kk => Av F fun A F => ?_)
 refine Zv F (d_un (v := bF) F rfl rfl rfl) fun A F => ?_
 refine Nl kk (condF F rfl (wp_skip (hK3 _ _ (Sp fun _ kk => ?_))))
 iterate 3 (refine Av F ?_; intro A F)
 refine Nl kk (Wr (ret2 F Tryz.results95 (res_tmp F rfl) (res_tmp F rfl) ?_))
 exact ⟨_, rfl, rfl, H.pickN 2 1 [1, 0] [0]⟩
theorem cx5024 (H : Sx.Own w0 w (Bt g1 (L117 G n) :: bs) rs K) : Cr 124 #[pT g1 0] w0 w (.agg #[iU 0, iU 0]) (Bt g1 (L117 G n) :: bs) rs K := by
 refine En Tryz.func124 Tryz.ntmps124 fun A F => ?_
 refine Sp fun _ kk => Zb F (d_alloc H rfl [iU 0, iU 0] zero_26) fun g2 A w F H => ?_
 refine Nl kk (Sp fun _ kk => ?_)
 iterate 4 (refine Av F ?_; intro A F)
 refine Zs 0 [iU 0, iU 0] sz_26 F H fun A w F H => ?_
 refine Nl kk (Wr (ret1 F Tryz.results124 (res_row (i := 0) (xs := [iU 0, iU 0]) rw_26 F H rfl rfl rfl rfl) ?_))
 exact ⟨_, rfl, rfl, H.pickN 2 0 [1] []⟩
theorem cx5025 (H : Sx.Own w0 w (Bt g1 [pT g2 0, uH G.lim, uL G.lim] :: Bt g2 (L117 G n) :: bs) rs K) : Cr 84 #[pT g1 0] w0 w (L128 G) (Bt g1 [pT g2 0, uH G.lim, uL G.lim] :: Bt g2 (L117 G n) :: bs) rs K := by
 refine En Tryz.func84 Tryz.ntmps84 fun A F => ?_
 refine Sp fun _ kk => Zb F (d_alloc H rfl [iU 0, iU 0, iU 0, iU 0] zero_79) fun g3 A w F H => ?_
 refine Nl kk (Sx.seq fun K2 hK2 => ?_)
 have F := F.tq [(0, pT g1 0), (2, pT g3 0)] rfl
 refine Dn F [some (pT g1 0), some (pT g1 0), some (pT g1 0), some (pT g2 0), some (.agg #[iU 0, iU 0]), some (pT g1 0), some (pT g1 0), some (pT g1 1), some (.agg #[uH G.lim, uL G.lim]), some (L128 G), none] (fun L A w => Sx.Own w0 w (Bt g3 (cond (L 10) [iU 0, iU 0, uH G.lim, uL G.lim] [iU 0, iU 0, iU 0, iU 0]) :: Bt g1 [pT g2 0, uH G.lim, uL G.lim] :: Bt g2 (L117 G n) :: bs) rs K) (H.drew.padG [] [] rfl rfl) ?_ ?_
 ·refine ⟨?_, ?_, ?_, ?_, ?_, ?_, ?_, ?_, ?_, ?_, ?_, trivial⟩
  ·exact Sa
  ·exact Sa
  ·exact Sa
  ·exact SV (fun _ _ _ F H => Ld 1 one_220 F H)
  ·intro L A w up hun hd F H
   have f10 : L 10 = false := up 10 4 rfl hun
   rw [f10] at H
   have H : Sx.Own w0 w (Bt g3 [iU 0, iU 0, iU 0, iU 0] :: Bt g1 [pT g2 0, uH G.lim, uL G.lim] :: Bt g2 (L117 G n) :: bs) rs K := H
   have H := H.pickN 3 0 [2, 0, 1] []
   refine step_on rfl (Do if_124 F (cx5024 H)) ?_
   rintro xv w' ⟨hx, H⟩
   have H := H.pickN 3 0 [1, 2, 0] []
   exact ⟨Cs hx, (by show Sx.Own _ _ _ _ _; rw [show Inv.add L 4 10 = false from f10]; exact H)⟩
  ·exact Sa
  ·exact Sa
  ·exact Sa
  ·exact SV (fun _ _ _ F H => Lr 1 [uH G.lim, uL G.lim] rw_26 F H)
  ·exact SV (fun _ _ _ F _ => d_build (qs := #[(0, .agg #[iU 0, iU 0]), (1, .agg #[uH G.lim, uL G.lim])]) (v := (L128 G)) F rfl rfl (by kernel_rfl))
  ·intro L A w up hun hd F H
   have f10 : L 10 = false := hun
   rw [f10] at H
   refine step_on rfl (d_store (i := 0) (xs := [iU 0, iU 0, uH G.lim, uL G.lim]) (us := [iU 0, iU 0, uH G.lim, uL G.lim]) sz_79 F H rfl rfl rfl rfl rfl rfl rfl (Nat.le_of_ble_eq_true rfl) rfl) ?_
   intro xv w' H
   exact ⟨Cn, H⟩
 ·intro L A w hL F H
  have t10 : L 10 = true := hL 10 rfl
  rw [t10] at H
  have H := H.pickN 3 0 [0, 1, 2] []
  have F := F.tq [(2, pT g3 0)] rfl
  refine hK2 _ _ (Wr (ret1 F Tryz.results84 (res_row (i := 0) (xs := [iU 0, iU 0, uH G.lim, uL G.lim]) rw_79 F H rfl rfl rfl rfl) ?_))
  exact ⟨_, rfl, rfl, H.pickN 3 0 [1, 2] []⟩
end
section
open Sx
variable {w0 w : World} {bs : List Sx.Bx} {rs : List Sx.Rx} {K : Nat → Option Obj} {g1 g2 g3 g4 g5 g6 g7 g8 g9 g10 g11 g12 g13 g14 g15 g16 g17 g18 g19 g20 g21 g22 g23 g24 c1 c2 c3 c4 c5 c6 c7 c8 c9 : Nat} {v1 v2 v3 v4 v5 v6 v7 v8 v9 : Value} {n b : BitVec 64} {at' : BitVec 128} {kd lf : BitVec 8} {G : Bd.Gen}
theorem cx5026 (H : Sx.Own w0 w bs rs K) : Cr 135 #[(L128 G)] w0 w (.agg #[uH G.lim, uL G.lim]) bs rs K := by
 refine En Tryz.func135 Tryz.ntmps135 fun A F => ?_
 refine Sp fun _ kk => Zb F (d_box F H rfl rfl [iU 0, iU 0, uH G.lim, uL G.lim] rfl) fun g1 A w F H => ?_
 refine Zb F (d_alloc H rfl [iU 0, iU 0] zero_26) fun g2 A w F H => ?_
 refine Nl kk (Sx.seq fun K2 hK2 => Sp fun _ kk => Av F fun A F => ?_)
 refine Zx F (Do if_119 F (cx5005 H)) ?_
 rintro _ w ⟨rfl, H⟩ A F
 refine Zv F (d_un (v := bF) F rfl rfl rfl) fun A F => ?_
 refine Nl kk (condF F rfl (wp_skip (hK2 _ _ (Sp fun _ kk => ?_))))
 iterate 4 (refine Av F ?_; intro A F)
 refine Zw F (Dc (v := (L118 G)) if_155 F H (Calls.val (v' := (L118 G)) (wsub_c G.lim 0#128 _) rfl (by rw [BitVec.sub_zero, Bd.less0]))) fun A w F H => ?_
 iterate 3 (refine Av F ?_; intro A F)
 refine Zb F (d_alloc H rfl [iU 0, iU 0] zero_26) fun g3 A w F H => ?_
 refine Zs 0 [uH G.lim, uL G.lim] sz_26 F H fun A w F H => ?_
 refine Av F fun A F => ?_
 refine Nl kk (Sp fun _ kk => Av F fun A F => ?_)
 refine Zs 1 [uH G.lim, uL G.lim] sz_26 F H fun A w F H => ?_
 refine Nl kk (Wr (ret1 F Tryz.results135 (res_row (i := 1) (xs := [uH G.lim, uL G.lim]) rw_26 F H rfl rfl rfl rfl) ?_))
 exact ⟨_, rfl, rfl, H.pickN 3 0 [] []⟩
theorem cx5027 (H : Sx.Own w0 w (Bt g1 [pT g2 0, uH G.lim, uL G.lim] :: Bt g2 (L117 G n) :: bs) rs K) : Cr 158 #[pT g1 0] w0 w (.agg #[uH G.lim, uL G.lim]) (Bt g1 [pT g2 0, uH G.lim, uL G.lim] :: Bt g2 (L117 G n) :: bs) rs K := by
 refine En Tryz.func158 Tryz.ntmps158 fun A F => ?_
 refine Sp fun _ kk => Zb F (d_alloc H rfl [iU 0, iU 0] zero_26) fun g3 A w F H => ?_
 refine Nl kk (Sp fun _ kk => Av F fun A F => ?_)
 have H := H.pickN 3 0 [1, 2, 0] []
 refine Zx F (Do if_84 F (cx5025 H)) ?_
 rintro _ w ⟨rfl, H⟩ A F
 refine Zx F (Do if_135 F (cx5026 H)) ?_
 rintro _ w ⟨rfl, H⟩ A F
 refine Zs 2 [uH G.lim, uL G.lim] sz_26 F H fun A w F H => ?_
 refine Nl kk (Wr (ret1 F Tryz.results158 (res_row (i := 2) (xs := [uH G.lim, uL G.lim]) rw_26 F H rfl rfl rfl rfl) ?_))
 exact ⟨_, rfl, rfl, H.pickN 3 0 [0, 1] []⟩
theorem cx5028 (hlt : at'.toNat < G.lim.toNat) (H : Sx.Own w0 w (Bt g1 [pT g2 0, uH G.lim, uL G.lim] :: Bt g2 (L117 G n) :: bs) rs K) : Cr 141 #[pT g1 0, .agg #[uH at', uL at']] w0 w bT (Bt g1 [pT g2 0, uH G.lim, uL G.lim] :: Bt g2 (L117 G n) :: bs) rs K := by
 refine En Tryz.func141 Tryz.ntmps141 fun A F => ?_
 refine Sp fun _ kk => Zb F (d_box F H rfl rfl [uH at', uL at'] rfl) fun g3 A w F H => ?_
 refine Av F fun A F => ?_
 refine Nl kk (Sx.seq fun K2 hK2 => ?_)
 have F := F.tq [(0, pT g1 0), (3, pT g3 0)] rfl
 refine Dn F [some (.agg #[uH at', uL at']), some (pT g1 0), some (.agg #[uH G.lim, uL G.lim]), some (iI (Wd.cmp at' G.lim)), some (bT), some (bT)] (fun L A w => Sx.Own w0 w (Bt g3 [uH at', uL at'] :: Bt g1 [pT g2 0, uH G.lim, uL G.lim] :: Bt g2 (L117 G n) :: bs) rs K) (H.drew.padG [] [] rfl rfl) ?_ ?_
 ·refine ⟨?_, ?_, ?_, ?_, ?_, ?_, trivial⟩
  ·exact SV (fun _ _ _ F H => Lr 0 [uH at', uL at'] rw_26 F H)
  ·exact Sa
  ·intro L A w up hun hd F H
   have H : Sx.Own w0 w (Bt g3 [uH at', uL at'] :: Bt g1 [pT g2 0, uH G.lim, uL G.lim] :: Bt g2 (L117 G n) :: bs) rs K := H
   have H := H.pickN 3 0 [1, 2, 0] []
   refine step_on rfl (Do if_158 F (cx5027 H)) ?_
   rintro xv w' ⟨hx, H⟩
   have H := H.pickN 3 0 [2, 0, 1] []
   exact ⟨Cs hx, H⟩
  ·intro L A w up hun hd F H
   refine step_on rfl (Dc if_16 F H (wcmp_c at' G.lim _)) ?_
   rintro xv w' ⟨hx, H⟩
   exact ⟨Cs hx, H⟩
  ·exact SV (fun _ _ _ F _ => Bn bT F rfl rfl rfl (i_le (decide_eq_true ((Bd.cmp_le0 _ _).2 (Nat.le_of_lt hlt)))))
  ·exact Sa
 ·intro L A w hL F H
  have H := H.pickN 3 0 [0, 1, 2] []
  have F := F.tq [(4, bT)] rfl
  refine hK2 _ _ (Wr (ret1 F Tryz.results141 (res_tmp F rfl) ?_))
  exact ⟨_, rfl, rfl, H.pickN 3 0 [1, 2] []⟩
theorem cx5029 (hlt : at'.toNat < G.lim.toNat) (H : Sx.Own w0 w (Bt g1 [pT g2 0, uH G.lim, uL G.lim] :: Bt g2 (L117 G n) :: bs) rs K) : Cr 105 #[pT g1 0, .agg #[uH at', uL at']] w0 w (iI 0) (Bt g1 [pT g2 0, uH G.lim, uL G.lim] :: Bt g2 (L116 G n at') :: bs) rs K := by
 refine En Tryz.func105 Tryz.ntmps105 fun A F => ?_
 refine Sp fun _ kk => Zb F (d_box F H rfl rfl [uH at', uL at'] rfl) fun g3 A w F H => ?_
 refine Av F fun A F => ?_
 refine Nl kk (Sx.seq fun K2 hK2 => Sp fun _ kk => ?_)
 iterate 2 (refine Av F ?_; intro A F)
 have H := H.pickN 3 0 [1, 2, 0] []
 refine Zx F (Do if_141 F (cx5028 hlt H)) ?_
 rintro _ w ⟨rfl, H⟩ A F
 refine Zv F (d_un (v := bF) F rfl rfl rfl) fun A F => ?_
 refine Nl kk (condF F rfl (wp_skip (hK2 _ _ (Sx.seq fun K4 hK4 => ?_))))
 have F := F.tq [(0, pT g1 0), (3, pT g3 0)] rfl
 refine Dn F [some (pT g1 0), some (pT g1 0), some (pT g1 0), some (pT g2 0), some (.agg #[uH at', uL at']), some (iI 0), some (iI 0)] (fun L A w => Sx.Own w0 w (Bt g1 [pT g2 0, uH G.lim, uL G.lim] :: Bt g2 (cond (L 5) (L116 G n at') (L117 G n)) :: Bt g3 [uH at', uL at'] :: bs) rs K) (H.drew.padG [] [] rfl rfl) ?_ ?_
 ·refine ⟨?_, ?_, ?_, ?_, ?_, ?_, ?_, trivial⟩
  ·exact Sa
  ·exact Sa
  ·exact Sa
  ·exact SV (fun _ _ _ F H => Ld 0 one_220 F H)
  ·exact SV (fun _ _ _ F H => Lr 2 [uH at', uL at'] rw_26 F H)
  ·intro L A w up hun hd F H
   have f5 : L 5 = false := hun
   rw [f5] at H
   have H := H.pickN 3 0 [1, 0, 2] []
   refine step_on rfl (d_callO (vs := [pT g2 0, .agg #[uH at', uL at']]) if_142 F rfl rfl (curskip_c hlt H)) ?_
   rintro xv w' ⟨hx, H⟩
   have H := H.pickN 3 0 [1, 0, 2] []
   exact ⟨Cs hx, H⟩
  ·exact Sa
 ·intro L A w hL F H
  have t5 : L 5 = true := hL 5 rfl
  rw [t5] at H
  have H := H.pickN 3 0 [0, 1, 2] []
  have F := F.tq [(4, iI 0)] rfl
  refine hK4 _ _ (Wr (ret1 F Tryz.results105 (res_tmp F rfl) ?_))
  exact ⟨_, rfl, rfl, H.pickN 3 0 [0, 1] []⟩
theorem cx5030 (hbc1 : 1 ≤ c1) (hlt : at'.toNat < G.lim.toNat) (H : Sx.Own w0 w (Bt g1 [pT g2 0, iI G.k, uN n] :: Bt g2 [sL g3 0 1 c1, iI 1] :: Bt g4 [pT g5 0, uH G.lim, uL G.lim] :: Bt g5 (L117 G n) :: bs) (⟨true, sL g3 0 1 c1, 217, 2, 1, [iI 0, pT g4 0]⟩ :: rs) K) : Cr 77 #[pT g1 0, iI 0, .agg #[uH at', uL at']] w0 w (iI 0) (Bt g1 [pT g2 0, iI G.k, uN n] :: Bt g2 [sL g3 0 1 c1, iI 1] :: Bt g4 [pT g5 0, uH G.lim, uL G.lim] :: Bt g5 (L116 G n at') :: bs) (⟨true, sL g3 0 1 c1, 217, 2, 1, [iI 0, pT g4 0]⟩ :: rs) K := by
 refine En Tryz.func77 Tryz.ntmps77 fun A F => ?_
 refine Sp fun _ kk => Zb F (d_box F H rfl rfl [uH at', uL at'] rfl) fun g6 A w F H => ?_
 refine Av F fun A F => ?_
 refine Nl kk (Sp fun _ kk => ?_)
 iterate 2 (refine Av F ?_; intro A F)
 have H := H.pickN 5 1 [1, 2, 0, 3, 4] [0]
 refine Zx F (Do if_95 F (cx5023 (by omega) H)) ?_
 rintro _ w ⟨rfl, H⟩ A F
 iterate 5 (refine Av F ?_; intro A F)
 refine Nl kk (Sx.seq fun K3 hK3 => Sp fun _ kk => ?_)
 iterate 2 (refine Av F ?_; intro A F)
 refine Nl kk (condF F rfl (wp_skip (hK3 _ _ (Sp fun _ kk => ?_))))
 iterate 2 (refine Av F ?_; intro A F)
 have H := H.pickN 5 1 [3, 4, 0, 1, 2] [0]
 refine Zx F (Do if_105 F (cx5029 hlt H)) ?_
 rintro _ w ⟨rfl, H⟩ A F
 refine Av F fun A F => ?_
 refine Nl kk (Wr (ret1 F Tryz.results77 (res_tmp F rfl) ?_))
 exact ⟨_, rfl, rfl, H.pickN 5 1 [2, 3, 0, 1] [0]⟩
abbrev L131 (x0 : BitVec 128) : Value := .agg #[iI 6, iI 0, iI 0, iI 0, iU 0, iU 0, uH x0, uL x0, nS]
abbrev L132 (x0 : BitVec 128) : List Value := [iI 6, iI 0, iI 0, iI 0, iU 0, iU 0, uH x0, uL x0, nS]
theorem cx5031 (hbc1 : 1 ≤ c1) (hlt : at'.toNat < G.lim.toNat) (H : Sx.Own w0 w (Bt g1 [pT g2 0] :: Bt g2 [pT g3 0, iI G.k, uN n] :: Bt g3 [sL g4 0 1 c1, iI 1] :: Bt g5 [pT g6 0, uH G.lim, uL G.lim] :: Bt g6 (L117 G n) :: bs) (⟨true, sL g4 0 1 c1, 217, 2, 1, [iI 0, pT g5 0]⟩ :: rs) K) : Cr 49 #[pT g1 0, (L131 at')] w0 w (.agg #[iI 0, iU 0, nS, nS, iI 0]) (Bt g1 [pT g2 0] :: Bt g2 [pT g3 0, iI G.k, uN n] :: Bt g3 [sL g4 0 1 c1, iI 1] :: Bt g5 [pT g6 0, uH G.lim, uL G.lim] :: Bt g6 (L116 G n at') :: bs) (⟨true, sL g4 0 1 c1, 217, 2, 1, [iI 0, pT g5 0]⟩ :: rs) K := by
 refine En Tryz.func49 Tryz.ntmps49 fun A F => ?_
 refine Sp fun _ kk => Zb F (d_box F H rfl rfl (L132 at') rfl) fun g7 A w F H => ?_
 refine Zb F (d_alloc H rfl [iI 0, iU 0, nS, nS, iI 0] zero_68) fun g8 A w F H => ?_
 refine Nl kk (Sx.seq fun K2 hK2 => ?_)
 have F := F.tq [(0, pT g1 0), (3, pT g7 0), (4, pT g8 0)] rfl
 refine Dn F [some (pT g1 0), some (pT g1 0), some (pT g1 0), some (pT g2 0), some (pT g7 1), some (iI 0), some (pT g7 6), some (.agg #[uH at', uL at']), some (iI 0), some (.agg #[iI 0, iU 0, nS, nS, iI 0]), none] (fun L A w => Sx.Own w0 w (Bt g8 [iI 0, iU 0, nS, nS, iI 0] :: Bt g7 (L132 at') :: Bt g1 [pT g2 0] :: Bt g2 [pT g3 0, iI G.k, uN n] :: Bt g3 [sL g4 0 1 c1, iI 1] :: Bt g5 [pT g6 0, uH G.lim, uL G.lim] :: Bt g6 (cond (L 8) (L116 G n at') (L117 G n)) :: bs) (⟨true, sL g4 0 1 c1, 217, 2, 1, [iI 0, pT g5 0]⟩ :: rs) K) (H.drew.padG [] [] rfl rfl) ?_ ?_
 ·refine ⟨?_, ?_, ?_, ?_, ?_, ?_, ?_, ?_, ?_, ?_, ?_, trivial⟩
  ·exact Sa
  ·exact Sa
  ·exact Sa
  ·exact SV (fun _ _ _ F H => Ld 2 one_114 F H)
  ·exact Sa
  ·exact SV (fun _ _ _ F H => Ld 1 one_3 F H)
  ·exact Sa
  ·exact SV (fun _ _ _ F H => Lr 1 [uH at', uL at'] rw_26 F H)
  ·intro L A w up hun hd F H
   have f8 : L 8 = false := hun
   rw [f8] at H
   have H : Sx.Own w0 w (Bt g8 [iI 0, iU 0, nS, nS, iI 0] :: Bt g7 (L132 at') :: Bt g1 [pT g2 0] :: Bt g2 [pT g3 0, iI G.k, uN n] :: Bt g3 [sL g4 0 1 c1, iI 1] :: Bt g5 [pT g6 0, uH G.lim, uL G.lim] :: Bt g6 (L117 G n) :: bs) (⟨true, sL g4 0 1 c1, 217, 2, 1, [iI 0, pT g5 0]⟩ :: rs) K := H
   have H := H.pickN 7 1 [3, 4, 5, 6, 0, 1, 2] [0]
   refine step_on rfl (Do if_77 F (cx5030 (by omega) hlt H)) ?_
   rintro xv w' ⟨hx, H⟩
   have H := H.pickN 7 1 [4, 5, 6, 0, 1, 2, 3] [0]
   exact ⟨Cs hx, H⟩
  ·exact SV (fun _ _ _ F _ => d_build (qs := #[(4, iI 0)]) (v := .agg #[iI 0, iU 0, nS, nS, iI 0]) F rfl rfl (by kernel_rfl))
  ·intro L A w up hun hd F H
   have t8 : L 8 = true := hd 8 rfl
   rw [t8] at H
   refine step_on rfl (d_store (i := 0) (xs := [iI 0, iU 0, nS, nS, iI 0]) (us := [iI 0, iU 0, nS, nS, iI 0]) sz_68 F H rfl rfl rfl rfl rfl rfl rfl (Nat.le_of_ble_eq_true rfl) rfl) ?_
   intro xv w' H
   exact ⟨Cn, (by show Sx.Own _ _ _ _ _; rw [show Inv.add L 10 8 = true from t8]; exact H)⟩
 ·intro L A w hL F H
  have t8 : L 8 = true := hL 8 rfl
  rw [t8] at H
  have H := H.pickN 7 1 [0, 1, 2, 3, 4, 5, 6] [0]
  have F := F.tq [(4, pT g8 0)] rfl
  refine hK2 _ _ (Wr (ret1 F Tryz.results49 (res_row (i := 0) (xs := [iI 0, iU 0, nS, nS, iI 0]) rw_68 F H rfl rfl rfl rfl) ?_))
  exact ⟨_, rfl, rfl, H.pickN 7 1 [2, 3, 4, 5, 6] [0]⟩
theorem cx5032 (hbc1 : 1 ≤ c1) (hlt : at'.toNat < G.lim.toNat) (H : Sx.Own w0 w (Bt g1 [pT g2 0] :: Bt g2 [pT g3 0, iI G.k, uN n] :: Bt g3 [sL g4 0 1 c1, iI 1] :: Bt g5 [pT g6 0, uH G.lim, uL G.lim] :: Bt g6 (L117 G n) :: bs) (⟨true, sL g4 0 1 c1, 217, 2, 1, [iI 0, pT g5 0]⟩ :: rs) K) : Cr 19 #[pT g1 0, (L131 at')] w0 w (.agg #[iI 0, iU 0, nS, nS, iI 0]) (Bt g1 [pT g2 0] :: Bt g2 [pT g3 0, iI G.k, uN n] :: Bt g3 [sL g4 0 1 c1, iI 1] :: Bt g5 [pT g6 0, uH G.lim, uL G.lim] :: Bt g6 (L116 G n at') :: bs) (⟨true, sL g4 0 1 c1, 217, 2, 1, [iI 0, pT g5 0]⟩ :: rs) K := by
 refine En Tryz.func19 Tryz.ntmps19 fun A F => ?_
 refine Sp fun _ kk => Zb F (d_box F H rfl rfl (L132 at') rfl) fun g7 A w F H => ?_
 refine Zb F (d_alloc H rfl [iI 0, iU 0, nS, nS, iI 0] zero_68) fun g8 A w F H => ?_
 refine Nl kk (Sx.seq fun K2 hK2 => ask_map F H ?_)
 intro A w mr mo10 hmK hmo F H
 refine hK2 _ _ (Sp fun _ kk => ?_)
 iterate 3 (refine Av F ?_; intro A F)
 refine Zv F (d_lookup (kt := 3) (et := 117) (z := .nilFunc) (v := .func (.func 49) #[] #[]) (b := true) (by kernel_rfl) (by kernel_rfl) (fun _ => by kernel_rfl) F H rfl rfl rfl (if_pos rfl) hmo rfl) fun A F => ?_
 have H := H.unkeep1 hmK
 iterate 5 (refine Av F ?_; intro A F)
 refine Nl kk (Sx.seq fun K4 hK4 => wp_block (Sp fun _ kk => Av F fun A F => ?_))
 refine Zv F (d_un (v := bF) F rfl rfl rfl) fun A F => ?_
 refine Av F fun A F => ?_
 refine Nl kk (condF F rfl (Sp fun _ kk => Av F fun A F => ?_))
 have H := H.pickN 7 1 [2, 0, 1, 3, 4, 5, 6] [0]
 refine Zx F (Do if_53 F (cx5018 H)) ?_
 rintro _ w ⟨rfl, H⟩ A F
 refine Av F fun A F => ?_
 refine su F (wanted_off rfl (guard_known (d := 24) (b := false) F rfl rfl) rfl) rfl (by decide) (fun A F => ?_)
 refine su F (wanted_off rfl (guard_known (d := 24) (b := false) F rfl rfl) rfl) rfl (by decide) (fun A F => ?_)
 refine su F (wanted_off rfl (guard_known (d := 24) (b := false) F rfl rfl) rfl) rfl (by decide) (fun A F => ?_)
 iterate 2 (refine Av F ?_; intro A F)
 refine su F (wanted_off rfl (guard_known (d := 29) (b := false) F rfl rfl) rfl) rfl (by decide) (fun A F => ?_)
 refine su F (wanted_off rfl (guard_known (d := 29) (b := false) F rfl rfl) rfl) rfl (by decide) (fun A F => ?_)
 refine su F (wanted_off rfl (guard_known (d := 29) (b := false) F rfl rfl) rfl) rfl (by decide) (fun A F => ?_)
 iterate 2 (refine Av F ?_; intro A F)
 refine Nl kk (condF F rfl (wp_skip (hK4 _ _ (Sp fun _ kk => ?_))))
 iterate 3 (refine Av F ?_; intro A F)
 have H := H.pickN 7 1 [0, 3, 4, 5, 6, 1, 2] [0]
 refine Zx F (d_callCO (fv := []) (vs := [pT g1 0, (L131 at')]) (cv := []) if_49 F rfl rfl rfl (cx5031 (by omega) hlt H)) ?_
 rintro _ w ⟨rfl, H⟩ A F
 refine Zs 5 [iI 0, iU 0, nS, nS, iI 0] sz_68 F H fun A w F H => ?_
 refine Nl kk (Wr (ret1 F Tryz.results19 (res_row (i := 5) (xs := [iI 0, iU 0, nS, nS, iI 0]) rw_68 F H rfl rfl rfl rfl) ?_))
 exact ⟨_, rfl, rfl, H.pickN 7 1 [0, 1, 2, 3, 4] [0]⟩
theorem cx5033 (hlt : at'.toNat < G.lim.toNat) (H : Sx.Own w0 w bs rs K) : Cr 54 #[iI G.k, uN n, .agg #[uH at', uL at']] w0 w (L125 G n at') bs rs K := by
 refine En Tryz.func54 Tryz.ntmps54 fun A F => ?_
 refine Sp fun _ kk => Zb F (d_box F H rfl rfl [uH at', uL at'] rfl) fun g1 A w F H => ?_
 refine Zb F (d_alloc H rfl L79 zero_35) fun g2 A w F H => ?_
 refine Av F fun A F => ?_
 refine Nl kk (Sp fun _ kk => ?_)
 iterate 2 (refine Av F ?_; intro A F)
 refine Zw F (Dc if_81 F H (G.new_c n _)) fun A w F H => ?_
 iterate 3 (refine Av F ?_; intro A F)
 refine Zb F (d_alloc H rfl L79 zero_35) fun g3 A w F H => ?_
 refine Zs 0 (L126 G n) sz_35 F H fun A w F H => ?_
 refine Av F fun A F => ?_
 refine Nl kk (Sx.seq fun K3 hK3 => wp_block (Sp fun _ kk => ?_))
 iterate 3 (refine Av F ?_; intro A F)
 refine Nl kk (condF F rfl (Sx.seq fun K5 hK5 => ?_))
 have F := F.tq [(0, iI G.k), (5, pT g1 0), (6, pT g2 0), (7, iI 0), (8, pT g3 0)] rfl
 refine Dn F [some (.agg #[uH at', uL at']), some (iI G.k), some (.agg #[uH G.lim, uL G.lim]), some (iI (Wd.cmp at' G.lim)), some (bF), some (bF)] (fun L A w => Sx.Own w0 w (Bt g3 (L126 G n) :: Bt g2 L79 :: Bt g1 [uH at', uL at'] :: bs) rs K) (H.drew.padG [] [] rfl rfl) ?_ ?_
 ·refine ⟨?_, ?_, ?_, ?_, ?_, ?_, trivial⟩
  ·exact SV (fun _ _ _ F H => Lr 2 [uH at', uL at'] rw_26 F H)
  ·exact Sa
  ·intro L A w up hun hd F H
   refine step_on rfl (Dc if_17 F H (G.limit_c _)) ?_
   rintro xv w' ⟨hx, H⟩
   exact ⟨Cs hx, H⟩
  ·intro L A w up hun hd F H
   refine step_on rfl (Dc if_16 F H (wcmp_c at' G.lim _)) ?_
   rintro xv w' ⟨hx, H⟩
   exact ⟨Cs hx, H⟩
  ·exact SV (fun _ _ _ F _ => Bn bF F rfl rfl rfl (i_ge (decide_eq_false fun h => absurd ((Bd.cmp_ge0 _ _).1 h) (Nat.not_le.2 hlt))))
  ·exact Sa
 ·intro L A w hL F H
  have H := H.pickN 3 0 [0, 1, 2] []
  have F := F.tq [(5, pT g1 0), (6, pT g2 0), (7, iI 0), (8, pT g3 0), (21, bF)] rfl
  refine hK5 _ _ (condF F rfl (wp_skip (hK3 _ _ (Sp fun _ kk => ?_))))
  iterate 2 (refine Av F ?_; intro A F)
  refine Zw F (Dc (v := (L125 G n at')) if_6 F H (Calls.val (v' := (L125 G n at')) (G.jump_c (G.seed n) (G.ok_seed n) at' _) rfl rfl)) fun A w F H => ?_
  iterate 2 (refine Av F ?_; intro A F)
  refine Zs 1 (L127 G n at') sz_35 F H fun A w F H => ?_
  refine Av F fun A F => ?_
  refine Nl kk (Wr (ret2 F Tryz.results54 (res_row (i := 1) (xs := (L127 G n at')) rw_35 F H rfl rfl rfl rfl) (res_tmp F rfl) ?_))
  exact ⟨_, rfl, rfl, H.pickN 3 0 [] []⟩
abbrev L133 (x0 : Bd.Gen) (x1 : BitVec 8) (x2 : BitVec 64) (x3 : BitVec 128) : Value := .agg #[iI ((x0.it x1.toNat (Bd.org x0 x2 x3)).k), iU ((x0.it x1.toNat (Bd.org x0 x2 x3)).m.toNat), iU ((x0.it x1.toNat (Bd.org x0 x2 x3)).x.a.toNat), iU ((x0.it x1.toNat (Bd.org x0 x2 x3)).x.b.toNat), iU ((x0.it x1.toNat (Bd.org x0 x2 x3)).x.c.toNat), iU ((x0.it x1.toNat (Bd.org x0 x2 x3)).x.d.toNat), uH ((x0.it x1.toNat (Bd.org x0 x2 x3)).s), uL ((x0.it x1.toNat (Bd.org x0 x2 x3)).s), uH ((x0.it x1.toNat (Bd.org x0 x2 x3)).i), uL ((x0.it x1.toNat (Bd.org x0 x2 x3)).i), uH ((x0.it x1.toNat (Bd.org x0 x2 x3)).c), uL ((x0.it x1.toNat (Bd.org x0 x2 x3)).c), iW ((x0.it x1.toNat (Bd.org x0 x2 x3)).k0.toNat), iW ((x0.it x1.toNat (Bd.org x0 x2 x3)).k1.toNat), .bool ((x0.it x1.toNat (Bd.org x0 x2 x3)).b)]
theorem cx5034 (hl40 : lf.toNat ≤ 40) (hlt : at'.toNat < G.lim.toNat) (H : Sx.Own w0 w bs rs K) : Cq 20 #[iI G.k, uN n, .agg #[uH at', uL at'], iI lf.toNat] w fun x w' => ∃ v1 : Value, x = .tuple #[v1, iI 0] ∧ Sx.Own w0 w' (bs) (⟨true, v1, 22, 1, lf.toNat, (u64s (G.ws lf.toNat (Bd.org G n at')))⟩ :: rs) K := by
 refine En Tryz.func20 Tryz.ntmps20 fun A F => ?_
 refine Sp fun _ kk => Zb F (d_box F H rfl rfl [uH at', uL at'] rfl) fun g1 A w F H => ?_
 iterate 2 (refine Av F ?_; intro A F)
 refine Nl kk (Sp fun _ kk => ?_)
 iterate 3 (refine Av F ?_; intro A F)
 refine Zx F (Do if_54 F (cx5033 hlt H)) ?_
 rintro _ w ⟨rfl, H⟩ A F
 iterate 3 (refine Av F ?_; intro A F)
 refine Zb F (d_alloc H rfl L79 zero_35) fun g2 A w F H => ?_
 refine Zs 0 (L127 G n at') sz_35 F H fun A w F H => ?_
 refine Av F fun A F => ?_
 refine Nl kk (Sx.seq fun K3 hK3 => Sp fun _ kk => ?_)
 iterate 2 (refine Av F ?_; intro A F)
 refine Nl kk (condF F rfl (wp_skip (hK3 _ _ (Sp fun _ kk => ?_))))
 iterate 2 (refine Av F ?_; intro A F)
 refine Zr (mk := fun v => .tuple #[v, (L133 G lf n at'), iI 0]) F (d_callR (vs := [(L124 G n at'), iI lf.toNat]) (mk := fun v => .tuple #[v, (L133 G lf n at'), iI 0]) if_55 F H rfl rfl (G.words_c (Bd.org G n at') (Bd.ok_org G n at') lf.toNat (Nat.le_trans hl40 (by decide)) _)) fun v1 A w F H => ?_
 iterate 4 (refine Av F ?_; intro A F)
 refine Zb F (d_alloc H rfl L79 zero_35) fun g3 A w F H => ?_
 refine Av F fun A F => ?_
 refine Zs 0 [iI ((G.it lf.toNat (Bd.org G n at')).k), iU ((G.it lf.toNat (Bd.org G n at')).m.toNat), iU ((G.it lf.toNat (Bd.org G n at')).x.a.toNat), iU ((G.it lf.toNat (Bd.org G n at')).x.b.toNat), iU ((G.it lf.toNat (Bd.org G n at')).x.c.toNat), iU ((G.it lf.toNat (Bd.org G n at')).x.d.toNat), uH ((G.it lf.toNat (Bd.org G n at')).s), uL ((G.it lf.toNat (Bd.org G n at')).s), uH ((G.it lf.toNat (Bd.org G n at')).i), uL ((G.it lf.toNat (Bd.org G n at')).i), uH ((G.it lf.toNat (Bd.org G n at')).c), uL ((G.it lf.toNat (Bd.org G n at')).c), iW ((G.it lf.toNat (Bd.org G n at')).k0.toNat), iW ((G.it lf.toNat (Bd.org G n at')).k1.toNat), .bool ((G.it lf.toNat (Bd.org G n at')).b)] sz_35 F H fun A w F H => ?_
 refine Av F fun A F => ?_
 refine Nl kk (Sp fun _ kk => ?_)
 iterate 4 (refine Av F ?_; intro A F)
 refine Nl kk (Wr (ret2 F Tryz.results20 (res_tmp F rfl) (res_tmp F rfl) ?_))
 exact ⟨_, rfl, v1, rfl, H.pickN 3 1 [] [0]⟩
theorem cx5035 (hbc1 : 1 ≤ c1) (hb : b.toNat ≠ 0) (hat : at'.toNat ≤ G.lim.toNat) (H : Sx.Own w0 w (Bt g1 [pT g2 0, iI G.k, uN n] :: Bt g2 [sL g3 0 1 c1, iI 1] :: Bt g4 [pT g5 0, uH G.lim, uL G.lim] :: Bt g5 (L116 G n at') :: bs) (⟨true, sL g3 0 1 c1, 217, 2, 1, [iI 0, pT g4 0]⟩ :: rs) K) : Cq 78 #[pT g1 0, iI 0, uN b] w fun x w' => ∃ (a1 : BitVec 64) (j1 : Int) (o1 : BitVec 128) (y1 : Nat → BitVec 64) (v1 : Value) (z1 : Gs), Bd.Told G n at' b a1 j1 o1 ∧ x = .tuple #[uN a1, iI j1] ∧ Sx.Own w0 w' (Bt g1 [pT g2 0, iI G.k, uN n] :: Bt g2 [sL g3 0 1 c1, iI 1] :: Bt g4 [pT g5 0, uH G.lim, uL G.lim] :: Bt g5 (L96 G n o1 y1 v1 z1) :: bs) (⟨true, sL g3 0 1 c1, 217, 2, 1, [iI 0, pT g4 0]⟩ :: rs) K := by
 refine En Tryz.func78 Tryz.ntmps78 fun A F => ?_
 refine Sp fun _ kk => ?_
 iterate 2 (refine Av F ?_; intro A F)
 refine Nl kk (Sp fun _ kk => ?_)
 iterate 2 (refine Av F ?_; intro A F)
 refine Zx F (Do if_95 F (cx5023 (by omega) H)) ?_
 rintro _ w ⟨rfl, H⟩ A F
 iterate 5 (refine Av F ?_; intro A F)
 refine Nl kk (Sx.seq fun K3 hK3 => Sp fun _ kk => ?_)
 iterate 2 (refine Av F ?_; intro A F)
 refine Nl kk (condF F rfl (wp_skip (hK3 _ _ (Sp fun _ kk => ?_))))
 iterate 2 (refine Av F ?_; intro A F)
 have H := H.pickN 4 1 [2, 3, 0, 1] [0]
 refine Zx F (Do if_106 F (cx3017 hb hat H)) ?_
 rintro _ w ⟨a1, j1, o1, y1, v1, z1, pp1, rfl, H⟩ A F
 iterate 4 (refine Av F ?_; intro A F)
 refine Nl kk (Wr (ret2 F Tryz.results78 (res_tmp F rfl) (res_tmp F rfl) ?_))
 exact ⟨_, rfl, a1, j1, o1, y1, v1, z1, pp1, rfl, H.pickN 4 1 [2, 3, 0, 1] [0]⟩
abbrev L134 (x0 : BitVec 64) : Value := .agg #[iI 7, iI 0, iI 0, iI 0, iU 0, uN x0, iU 0, iU 0, nS]
abbrev L135 (x0 : BitVec 64) : List Value := [iI 7, iI 0, iI 0, iI 0, iU 0, uN x0, iU 0, iU 0, nS]
theorem cx5036 (hbc1 : 1 ≤ c1) (hb : b.toNat ≠ 0) (hat : at'.toNat ≤ G.lim.toNat) (H : Sx.Own w0 w (Bt g1 [pT g2 0] :: Bt g2 [pT g3 0, iI G.k, uN n] :: Bt g3 [sL g4 0 1 c1, iI 1] :: Bt g5 [pT g6 0, uH G.lim, uL G.lim] :: Bt g6 (L116 G n at') :: bs) (⟨true, sL g4 0 1 c1, 217, 2, 1, [iI 0, pT g5 0]⟩ :: rs) K) : Cq 50 #[pT g1 0, (L134 b)] w fun x w' => ∃ (a1 : BitVec 64) (j1 : Int) (o1 : BitVec 128) (y1 : Nat → BitVec 64) (v1 : Value) (z1 : Gs), Bd.Told G n at' b a1 j1 o1 ∧ x = .agg #[iI 0, uN a1, nS, nS, iI j1] ∧ Sx.Own w0 w' (Bt g1 [pT g2 0] :: Bt g2 [pT g3 0, iI G.k, uN n] :: Bt g3 [sL g4 0 1 c1, iI 1] :: Bt g5 [pT g6 0, uH G.lim, uL G.lim] :: Bt g6 (L96 G n o1 y1 v1 z1) :: bs) (⟨true, sL g4 0 1 c1, 217, 2, 1, [iI 0, pT g5 0]⟩ :: rs) K := by
 refine En Tryz.func50 Tryz.ntmps50 fun A F => ?_
 refine Sp fun _ kk => Zb F (d_box F H rfl rfl (L135 b) rfl) fun g7 A w F H => ?_
 refine Zb F (d_alloc H rfl [iI 0, iU 0, nS, nS, iI 0] zero_68) fun g8 A w F H => ?_
 refine Nl kk (Sx.seq fun K2 hK2 => ?_)
 have F := F.tq [(0, pT g1 0), (3, pT g7 0), (4, pT g8 0)] rfl
 refine Dn F [some (pT g1 0), some (pT g1 0), some (pT g1 0), some (pT g2 0), some (pT g7 1), some (iI 0), some (pT g7 5), some (uN b), none, none, none, none, none, none] (fun L A w => ∃ a1 : BitVec 64, ∃ j1 : Int, ∃ o1 : BitVec 128, ∃ y1 : Nat → BitVec 64, ∃ v1 : Value, ∃ z1 : Gs, (L 8 = true → A.eval (.tmp 16) = .tuple #[uN a1, iI j1]) ∧ (L 9 = true → A.eval (.tmp 7) = .tuple #[uN a1, iI j1]) ∧ (L 10 = true → A.eval (.tmp 17) = uN a1) ∧ (L 11 = true → A.eval (.tmp 18) = iI j1) ∧ (L 12 = true → A.eval (.tmp 5) = uN a1) ∧ (L 13 = true → A.eval (.tmp 6) = iI j1) ∧ (L 8 = true → Bd.Told G n at' b a1 j1 o1) ∧ Sx.Own w0 w (Bt g8 [iI 0, iU 0, nS, nS, iI 0] :: Bt g7 (L135 b) :: Bt g1 [pT g2 0] :: Bt g2 [pT g3 0, iI G.k, uN n] :: Bt g3 [sL g4 0 1 c1, iI 1] :: Bt g5 [pT g6 0, uH G.lim, uL G.lim] :: Bt g6 (cond (L 8) (L96 G n o1 y1 v1 z1) (L116 G n at')) :: bs) (⟨true, sL g4 0 1 c1, 217, 2, 1, [iI 0, pT g5 0]⟩ :: rs) K) ⟨0#64, 0, 0#128, Bd.noy, undef, Bd.nogs, (fun h => by cases h), (fun h => by cases h), (fun h => by cases h), (fun h => by cases h), (fun h => by cases h), (fun h => by cases h), (fun h => by cases h), H.drew.padG [] [] rfl rfl⟩ ?_ ?_
 ·refine ⟨?_, ?_, ?_, ?_, ?_, ?_, ?_, ?_, ?_, ?_, ?_, ?_, ?_, ?_, trivial⟩
  ·intro L A w up hun hd F ⟨a1, j1, o1, y1, v1, z1, p8, p9, p10, p11, p12, p13, qpp1, H⟩
   have f1 : L 1 = false := up 1 0 rfl hun
   have f2 : L 2 = false := up 2 1 rfl f1
   have f3 : L 3 = false := up 3 2 rfl f2
   have f8 : L 8 = false := up 8 3 rfl f3
   have f9 : L 9 = false := up 9 8 rfl f8
   have f10 : L 10 = false := up 10 9 rfl f9
   have f11 : L 11 = false := up 11 9 rfl f9
   have f12 : L 12 = false := up 12 0 rfl hun
   have f13 : L 13 = false := up 13 0 rfl hun
   have Hj := H; rw [f8] at Hj
   refine step_on rfl (d_move F (Or.inl rfl) rfl) ?_
   rintro xv w' ⟨hx, rfl⟩
   exact ⟨Cs hx, ⟨a1, j1, o1, y1, v1, z1, Nf f8, Nf f9, Nf f10, Nf f11, Nf f12, Nf f13, Nf f8, H⟩⟩
  ·intro L A w up hun hd F ⟨a1, j1, o1, y1, v1, z1, p8, p9, p10, p11, p12, p13, qpp1, H⟩
   have f2 : L 2 = false := up 2 1 rfl hun
   have f3 : L 3 = false := up 3 2 rfl f2
   have f8 : L 8 = false := up 8 3 rfl f3
   have f9 : L 9 = false := up 9 8 rfl f8
   have f10 : L 10 = false := up 10 9 rfl f9
   have f11 : L 11 = false := up 11 9 rfl f9
   have f12 : L 12 = false := up 12 1 rfl hun
   have f13 : L 13 = false := up 13 1 rfl hun
   have Hj := H; rw [f8] at Hj
   refine step_on rfl (d_nil F rfl rfl) ?_
   rintro xv w' ⟨hx, rfl⟩
   exact ⟨Cs hx, ⟨a1, j1, o1, y1, v1, z1, Nf f8, Nf f9, Nf f10, Nf f11, Nf f12, Nf f13, Nf f8, H⟩⟩
  ·intro L A w up hun hd F ⟨a1, j1, o1, y1, v1, z1, p8, p9, p10, p11, p12, p13, qpp1, H⟩
   have f3 : L 3 = false := up 3 2 rfl hun
   have f8 : L 8 = false := up 8 3 rfl f3
   have f9 : L 9 = false := up 9 8 rfl f8
   have f10 : L 10 = false := up 10 9 rfl f9
   have f11 : L 11 = false := up 11 9 rfl f9
   have f12 : L 12 = false := up 12 2 rfl hun
   have f13 : L 13 = false := up 13 2 rfl hun
   have Hj := H; rw [f8] at Hj
   refine step_on rfl (Fd F (fa_116_0.default.h _ _ _)) ?_
   rintro xv w' ⟨hx, rfl⟩
   exact ⟨Cs hx, ⟨a1, j1, o1, y1, v1, z1, Nf f8, Nf f9, Nf f10, Nf f11, Nf f12, Nf f13, Nf f8, H⟩⟩
  ·intro L A w up hun hd F ⟨a1, j1, o1, y1, v1, z1, p8, p9, p10, p11, p12, p13, qpp1, H⟩
   have f8 : L 8 = false := up 8 3 rfl hun
   have f9 : L 9 = false := up 9 8 rfl f8
   have f10 : L 10 = false := up 10 9 rfl f9
   have f11 : L 11 = false := up 11 9 rfl f9
   have f12 : L 12 = false := up 12 3 rfl hun
   have f13 : L 13 = false := up 13 3 rfl hun
   have Hj := H; rw [f8] at Hj
   refine step_on rfl (Ld 2 one_114 F Hj) ?_
   rintro xv w' ⟨hx, rfl⟩
   exact ⟨Cs hx, ⟨a1, j1, o1, y1, v1, z1, Nf f8, Nf f9, Nf f10, Nf f11, Nf f12, Nf f13, Nf f8, H⟩⟩
  ·intro L A w up hun hd F ⟨a1, j1, o1, y1, v1, z1, p8, p9, p10, p11, p12, p13, qpp1, H⟩
   have f5 : L 5 = false := up 5 4 rfl hun
   have f8 : L 8 = false := up 8 5 rfl f5
   have f9 : L 9 = false := up 9 8 rfl f8
   have f10 : L 10 = false := up 10 9 rfl f9
   have f11 : L 11 = false := up 11 9 rfl f9
   have f12 : L 12 = false := up 12 4 rfl hun
   have f13 : L 13 = false := up 13 4 rfl hun
   have Hj := H; rw [f8] at Hj
   refine step_on rfl (Fd F (fa_71_1.default.h _ _ _)) ?_
   rintro xv w' ⟨hx, rfl⟩
   exact ⟨Cs hx, ⟨a1, j1, o1, y1, v1, z1, Nf f8, Nf f9, Nf f10, Nf f11, Nf f12, Nf f13, Nf f8, H⟩⟩
  ·intro L A w up hun hd F ⟨a1, j1, o1, y1, v1, z1, p8, p9, p10, p11, p12, p13, qpp1, H⟩
   have f8 : L 8 = false := up 8 5 rfl hun
   have f9 : L 9 = false := up 9 8 rfl f8
   have f10 : L 10 = false := up 10 9 rfl f9
   have f11 : L 11 = false := up 11 9 rfl f9
   have f12 : L 12 = false := up 12 5 rfl hun
   have f13 : L 13 = false := up 13 5 rfl hun
   have Hj := H; rw [f8] at Hj
   refine step_on rfl (Ld 1 one_3 F Hj) ?_
   rintro xv w' ⟨hx, rfl⟩
   exact ⟨Cs hx, ⟨a1, j1, o1, y1, v1, z1, Nf f8, Nf f9, Nf f10, Nf f11, Nf f12, Nf f13, Nf f8, H⟩⟩
  ·intro L A w up hun hd F ⟨a1, j1, o1, y1, v1, z1, p8, p9, p10, p11, p12, p13, qpp1, H⟩
   have f7 : L 7 = false := up 7 6 rfl hun
   have f8 : L 8 = false := up 8 7 rfl f7
   have f9 : L 9 = false := up 9 8 rfl f8
   have f10 : L 10 = false := up 10 9 rfl f9
   have f11 : L 11 = false := up 11 9 rfl f9
   have f12 : L 12 = false := up 12 6 rfl hun
   have f13 : L 13 = false := up 13 6 rfl hun
   have Hj := H; rw [f8] at Hj
   refine step_on rfl (Fd F (fa_71_5.default.h _ _ _)) ?_
   rintro xv w' ⟨hx, rfl⟩
   exact ⟨Cs hx, ⟨a1, j1, o1, y1, v1, z1, Nf f8, Nf f9, Nf f10, Nf f11, Nf f12, Nf f13, Nf f8, H⟩⟩
  ·intro L A w up hun hd F ⟨a1, j1, o1, y1, v1, z1, p8, p9, p10, p11, p12, p13, qpp1, H⟩
   have f8 : L 8 = false := up 8 7 rfl hun
   have f9 : L 9 = false := up 9 8 rfl f8
   have f10 : L 10 = false := up 10 9 rfl f9
   have f11 : L 11 = false := up 11 9 rfl f9
   have f12 : L 12 = false := up 12 7 rfl hun
   have f13 : L 13 = false := up 13 7 rfl hun
   have Hj := H; rw [f8] at Hj
   refine step_on rfl (Ld 1 one_22 F Hj) ?_
   rintro xv w' ⟨hx, rfl⟩
   exact ⟨Cs hx, ⟨a1, j1, o1, y1, v1, z1, Nf f8, Nf f9, Nf f10, Nf f11, Nf f12, Nf f13, Nf f8, H⟩⟩
  ·intro L A w up hun hd F ⟨a1, j1, o1, y1, v1, z1, p8, p9, p10, p11, p12, p13, qpp1, H⟩
   have f8 : L 8 = false := hun
   have f9 : L 9 = false := up 9 8 rfl hun
   have f10 : L 10 = false := up 10 9 rfl f9
   have f11 : L 11 = false := up 11 9 rfl f9
   have f12 : L 12 = false := up 12 8 rfl hun
   have f13 : L 13 = false := up 13 8 rfl hun
   rw [f8] at H
   have H : Sx.Own w0 w (Bt g8 [iI 0, iU 0, nS, nS, iI 0] :: Bt g7 (L135 b) :: Bt g1 [pT g2 0] :: Bt g2 [pT g3 0, iI G.k, uN n] :: Bt g3 [sL g4 0 1 c1, iI 1] :: Bt g5 [pT g6 0, uH G.lim, uL G.lim] :: Bt g6 (L116 G n at') :: bs) (⟨true, sL g4 0 1 c1, 217, 2, 1, [iI 0, pT g5 0]⟩ :: rs) K := H
   have H := H.pickN 7 1 [3, 4, 5, 6, 0, 1, 2] [0]
   refine step_on rfl (Do if_78 F (cx5035 (by omega) hb hat H)) ?_
   rintro xv w' ⟨a2, j2, o2, y2, v2, z2, pp2, hx, H⟩
   have H := H.pickN 7 1 [4, 5, 6, 0, 1, 2, 3] [0]
   exact ⟨Cn, ⟨a2, j2, o2, y2, v2, z2, (fun _ => (Sx.put_same F (by decide) _).trans hx), Nf f9, Nf f10, Nf f11, Nf f12, Nf f13, (fun _ => pp2), H⟩⟩
  ·intro L A w up hun hd F ⟨a1, j1, o1, y1, v1, z1, p8, p9, p10, p11, p12, p13, qpp1, H⟩
   have t8 : L 8 = true := hd 8 rfl
   have f9 : L 9 = false := hun
   have f10 : L 10 = false := up 10 9 rfl hun
   have f11 : L 11 = false := up 11 9 rfl hun
   have f12 : L 12 = false := up 12 9 rfl hun
   have f13 : L 13 = false := up 13 9 rfl hun
   have Hj := H; rw [t8] at Hj
   have pp1 := qpp1 t8
   have F := Fr.add F (p8 t8)
   refine step_on rfl (d_move F (Or.inl rfl) rfl) ?_
   rintro xv w' ⟨hx, rfl⟩
   exact ⟨Cn, ⟨a1, j1, o1, y1, v1, z1, Pk p8, (fun _ => (Sx.put_same F (by decide) _).trans hx), Nf f10, Nf f11, Nf f12, Nf f13, qpp1, H⟩⟩
  ·intro L A w up hun hd F ⟨a1, j1, o1, y1, v1, z1, p8, p9, p10, p11, p12, p13, qpp1, H⟩
   have t8 : L 8 = true := by
    cases hb : L 8 with
    | true => rfl
    | false =>
     have hb9 := up 9 8 rfl hb
     rw [hd 9 rfl] at hb9; cases hb9
   have t9 : L 9 = true := hd 9 rfl
   have f10 : L 10 = false := hun
   have f12 : L 12 = false := up 12 10 rfl hun
   have f13 : L 13 = false := up 13 10 rfl hun
   have Hj := H; rw [t8] at Hj
   have pp1 := qpp1 t8
   have F := Fr.add F (p8 t8)
   have F := Fr.add F (p9 t9)
   refine step_on rfl (d_extract (v := uN a1) F rfl rfl rfl) ?_
   rintro xv w' ⟨hx, rfl⟩
   exact ⟨Cn, ⟨a1, j1, o1, y1, v1, z1, Pk p8, Pk p9, (fun _ => (Sx.put_same F (by decide) _).trans hx), Pk p11, Nf f12, Nf f13, qpp1, H⟩⟩
  ·intro L A w up hun hd F ⟨a1, j1, o1, y1, v1, z1, p8, p9, p10, p11, p12, p13, qpp1, H⟩
   have t8 : L 8 = true := by
    cases hb : L 8 with
    | true => rfl
    | false =>
     have hb9 := up 9 8 rfl hb
     rw [hd 9 rfl] at hb9; cases hb9
   have t9 : L 9 = true := hd 9 rfl
   have f11 : L 11 = false := hun
   have f13 : L 13 = false := up 13 11 rfl hun
   have Hj := H; rw [t8] at Hj
   have pp1 := qpp1 t8
   have F := Fr.add F (p8 t8)
   have F := Fr.add F (p9 t9)
   refine step_on rfl (d_extract (v := iI j1) F rfl rfl rfl) ?_
   rintro xv w' ⟨hx, rfl⟩
   exact ⟨Cn, ⟨a1, j1, o1, y1, v1, z1, Pk p8, Pk p9, Pk p10, (fun _ => (Sx.put_same F (by decide) _).trans hx), Pk p12, Nf f13, qpp1, H⟩⟩
  ·intro L A w up hun hd F ⟨a1, j1, o1, y1, v1, z1, p8, p9, p10, p11, p12, p13, qpp1, H⟩
   have t8 : L 8 = true := hd 8 rfl
   have t9 : L 9 = true := hd 9 rfl
   have t10 : L 10 = true := hd 10 rfl
   have f12 : L 12 = false := hun
   have f13 : L 13 = false := up 13 12 rfl hun
   have Hj := H; rw [t8] at Hj
   have pp1 := qpp1 t8
   have F := Fr.add F (p8 t8)
   have F := Fr.add F (p9 t9)
   have F := Fr.add F (p10 t10)
   refine step_on rfl (d_move F (Or.inr rfl) rfl) ?_
   rintro xv w' ⟨hx, rfl⟩
   exact ⟨Cn, ⟨a1, j1, o1, y1, v1, z1, Pk p8, Pk p9, Pk p10, Pk p11, (fun _ => (Sx.put_same F (by decide) _).trans hx), Nf f13, qpp1, H⟩⟩
  ·intro L A w up hun hd F ⟨a1, j1, o1, y1, v1, z1, p8, p9, p10, p11, p12, p13, qpp1, H⟩
   have t8 : L 8 = true := hd 8 rfl
   have t9 : L 9 = true := hd 9 rfl
   have t10 : L 10 = true := hd 10 rfl
   have t11 : L 11 = true := hd 11 rfl
   have t12 : L 12 = true := hd 12 rfl
   have f13 : L 13 = false := hun
   have Hj := H; rw [t8] at Hj
   have pp1 := qpp1 t8
   have F := Fr.add F (p8 t8)
   have F := Fr.add F (p9 t9)
   have F := Fr.add F (p10 t10)
   have F := Fr.add F (p11 t11)
   have F := Fr.add F (p12 t12)
   refine step_on rfl (d_move F (Or.inr rfl) rfl) ?_
   rintro xv w' ⟨hx, rfl⟩
   exact ⟨Cn, ⟨a1, j1, o1, y1, v1, z1, Pk p8, Pk p9, Pk p10, Pk p11, Pk p12, (fun _ => (Sx.put_same F (by decide) _).trans hx), qpp1, H⟩⟩
 ·intro L A w hL F ⟨a1, j1, o1, y1, v1, z1, p8, p9, p10, p11, p12, p13, qpp1, H⟩
  have t8 : L 8 = true := hL 8 rfl
  have t9 : L 9 = true := hL 9 rfl
  have t10 : L 10 = true := hL 10 rfl
  have t11 : L 11 = true := hL 11 rfl
  have t12 : L 12 = true := hL 12 rfl
  have t13 : L 13 = true := hL 13 rfl
  rw [t8] at H
  have F := Fr.add F (p8 t8)
  have F := Fr.add F (p9 t9)
  have F := Fr.add F (p10 t10)
  have F := Fr.add F (p11 t11)
  have F := Fr.add F (p12 t12)
  have F := Fr.add F (p13 t13)
  have pp1 := qpp1 t8
  have H := H.pickN 7 1 [0, 1, 2, 3, 4, 5, 6] [0]
  have F := F.tq [(4, pT g8 0), (5, uN a1), (6, iI j1)] rfl
  refine hK2 _ _ (Sp fun _ kk => ?_)
  iterate 2 (refine Av F ?_; intro A F)
  refine Zv F (d_build (qs := #[(1, uN a1), (4, iI j1)]) (v := .agg #[iI 0, uN a1, nS, nS, iI j1]) F rfl rfl (by kernel_rfl)) fun A F => ?_
  refine Zs 0 [iI 0, uN a1, nS, nS, iI j1] sz_68 F H fun A w F H => ?_
  refine Nl kk (Wr (ret1 F Tryz.results50 (res_row (i := 0) (xs := [iI 0, uN a1, nS, nS, iI j1]) rw_68 F H rfl rfl rfl rfl) ?_))
  exact ⟨_, rfl, a1, j1, o1, y1, v1, z1, pp1, rfl, H.pickN 7 1 [2, 3, 4, 5, 6] [0]⟩
end
end Go.Proofs.YteecadoakmdibaaGreat
