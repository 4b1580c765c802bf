/- What the proof of TopJump leans on: part 7. -/
import Derived.Test.YteecadoakmdibaaGreatQ1
import Derived.Test.YteecadoakmdibaaGreatQ2
import Derived.Test.YteecadoakmdibaaGreatQ4
import Derived.Test.YteecadoakmdibaaGreatQ6
import Derived.Deep.RegionHeld3
set_option maxRecDepth 100000
set_option maxHeartbeats 4000000
namespace Go.Proofs.YteecadoakmdibaaGreat
open Go Go.RowKit
set_option maxHeartbeats 8000000 in
open Sx in
theorem rmul_c (da db : BitVec 128) (w0 : World) : Calls Tryz.prog 30 #[.agg #[uH da, uL da], .agg #[uH db, uL db]] w0 fun e w' => e = .returned (.agg #[uH (da * db), uL (da * db)]) ∧ Below w0.heap.size w0 w' := by
 refine En Tryz.func30 Tryz.ntmps30 fun A F => ?_
 have H := Sx.Own.start w0
 refine Sp fun _ kk => Zb F (d_box F H rfl rfl [uH da, uL da] rfl) fun g1 A w F H => ?_
 refine Zb F (d_box F H rfl rfl [uH db, uL db] rfl) fun g2 A w F H => ?_
 refine Zb F (d_alloc H rfl L1 zero_41) fun g3 A w F H => ?_
 refine Nl kk (Sp fun _ kk => Av F fun A F => ?_)
 refine Zw F (Dc if_63 F H (rdigits_c da _)) fun A w F H => ?_
 refine Zb F (d_alloc H rfl [iU 0, iU 0, iU 0, iU 0] zero_23) fun g4 A w F H => ?_
 refine Zs 0 (L17 da) sz_23 F H fun A w F H => ?_
 refine Nl kk (Sp fun _ kk => Av F fun A F => ?_)
 refine Zw F (Dc if_63 F H (rdigits_c db _)) fun A w F H => ?_
 refine Zb F (d_alloc H rfl [iU 0, iU 0, iU 0, iU 0] zero_23) fun g5 A w F H => ?_
 refine Zs 0 (L17 db) sz_23 F H fun A w F H => ?_
 refine Nl kk (Sp fun _ kk => Zv F (d_build (qs := #[]) (v := .agg #[iU 0, iU 0, iU 0, iU 0]) F rfl rfl (by kernel_rfl)) fun A F => ?_)
 refine Zb F (d_alloc H rfl [iU 0, iU 0, iU 0, iU 0] zero_23) fun g6 A w F H => ?_
 refine Zs 0 [iU 0, iU 0, iU 0, iU 0] sz_23 F H fun A w F H => ?_
 refine Nl kk (Sx.seq fun K5 hK5 => Sp fun _ kk => Av F fun A F => ?_)
 refine Nl kk (wp_block (wp_loop_rounds 5 ?_))
 try dsimp only [Exit.then, Exit.noGoto]
 rw [rounds_succ]
 refine Sx.seq fun K7 hK7 => Sp fun _ kk => ?_
 iterate 2 (refine Av F ?_; intro A F)
 refine Nl kk (condT F rfl (wp_skip (hK7 _ _ (Sx.seq fun K9 hK9 => wp_block (Sp fun _ kk => Av F fun A F => ?_)))))
 refine Nl kk (Sp fun _ kk => Av F fun A F => ?_)
 refine Nl kk (wp_block (wp_loop_rounds 5 ?_))
 try dsimp only [Exit.then, Exit.noGoto]
 rw [rounds_succ]
 refine Sx.seq fun K12 hK12 => Sp fun _ kk => ?_
 iterate 2 (refine Av F ?_; intro A F)
 refine Zv F (Bn (iI 0) F rfl rfl rfl (i_addS (by decide))) fun A F => ?_
 refine Av F fun A F => ?_
 refine Nl kk (condT F rfl (wp_skip (hK12 _ _ (Sx.seq fun K14 hK14 => wp_block (Sx.seq fun K15 hK15 => ?_)))))
 have F := F.tq [(4, pT g3 0), (5, pT g4 0), (6, pT g5 0), (7, pT g6 0), (8, iI 0), (18, bT), (9, iU 0), (10, iI 0), (24, bT)] rfl
 refine Dn F [some (iI 0), some (iI 0), some (iI 0), some (pT g6 0), some (iU 0), some (iI 0), some (pT g4 0), some (uN (Wd.lo da % 4294967296#64)), some (iI 0), some (pT g5 0), some (uN (Wd.lo db % 4294967296#64)), some (uN ((Wd.lo da % 4294967296#64) * (Wd.lo db % 4294967296#64))), some (uN (0#64 + ((Wd.lo da % 4294967296#64) * (Wd.lo db % 4294967296#64)))), some (iU 0), some (uN ((0#64 + ((Wd.lo da % 4294967296#64) * (Wd.lo db % 4294967296#64))) + 0#64)), some (uN ((0#64 + ((Wd.lo da % 4294967296#64) * (Wd.lo db % 4294967296#64))) + 0#64))] (fun L A w => Sx.Own w0 w [(true, g6, [iU 0, iU 0, iU 0, iU 0]), (true, g5, (L17 db)), (true, g4, (L17 da)), (true, g3, L1), (true, g2, [uH db, uL db]), (true, g1, [uH da, uL da])] []) H.drew ?_ ?_
 ·refine ⟨?_, ?_, ?_, ?_, ?_, ?_, ?_, ?_, ?_, ?_, ?_, ?_, ?_, ?_, ?_, ?_, trivial⟩
  ·exact Sa
  ·exact Sa
  ·exact SV (fun _ _ _ F _ => Bn (iI 0) F rfl rfl rfl (i_addS (by decide)))
  ·exact SV (fun _ _ _ F _ => d_iaddr (v := pT g6 0) F rfl rfl rfl (by kernel_rfl))
  ·exact SV (fun _ _ _ F H => Ld 0 one_22 F H)
  ·exact Sa
  ·exact SV (fun _ _ _ F _ => d_iaddr (v := pT g4 0) F rfl rfl rfl (by kernel_rfl))
  ·exact SV (fun _ _ _ F H => Ld 2 one_22 F H)
  ·exact Sa
  ·exact SV (fun _ _ _ F _ => d_iaddr (v := pT g5 0) F rfl rfl rfl (by kernel_rfl))
  ·exact SV (fun _ _ _ F H => Ld 1 one_22 F H)
  ·exact SV (fun _ _ _ F _ => Bn (uN ((Wd.lo da % 4294967296#64) * (Wd.lo db % 4294967296#64))) F rfl rfl rfl (i_mul64 (Wd.lo da % 4294967296#64) (Wd.lo db % 4294967296#64)))
  ·exact SV (fun _ _ _ F _ => Bn (uN (0#64 + ((Wd.lo da % 4294967296#64) * (Wd.lo db % 4294967296#64)))) F rfl rfl rfl (i_add64 0#64 ((Wd.lo da % 4294967296#64) * (Wd.lo db % 4294967296#64))))
  ·exact Sa
  ·exact SV (fun _ _ _ F _ => Bn (uN ((0#64 + ((Wd.lo da % 4294967296#64) * (Wd.lo db % 4294967296#64))) + 0#64)) F rfl rfl rfl (i_add64 (0#64 + ((Wd.lo da % 4294967296#64) * (Wd.lo db % 4294967296#64))) 0#64))
  ·exact Sa
 ·intro L A w hL F H
  have F := F.tq [(4, pT g3 0), (5, pT g4 0), (6, pT g5 0), (7, pT g6 0), (8, iI 0), (18, bT), (9, iU 0), (10, iI 0), (24, bT), (11, uN ((0#64 + ((Wd.lo da % 4294967296#64) * (Wd.lo db % 4294967296#64))) + 0#64))] rfl
  obtain ⟨n00, hn00⟩ : ∃ q, ((0#64 + ((Wd.lo da % 4294967296#64) * (Wd.lo db % 4294967296#64))) + 0#64) = q := ⟨_, rfl⟩
  rw [hn00] at F
  refine hK15 _ _ (Sp fun _ kk => ?_)
  iterate 2 (refine Av F ?_; intro A F)
  refine Zv F (Bn (iI 0) F rfl rfl rfl (i_addS (by decide))) fun A F => ?_
  refine Av F fun A F => ?_
  refine Zv F (Bn (uN (n00 % 4294967296#64)) F rfl rfl rfl (i_rem64 n00 4294967296#64 (by decide))) fun A F => ?_
  refine Zv F (d_iaddr (v := pT g6 0) F rfl rfl rfl (by kernel_rfl)) fun A F => ?_
  refine Zs 0 [uN (n00 % 4294967296#64), iU 0, iU 0, iU 0] sz_22 F H fun A w F H => ?_
  refine Nl kk (Sx.plain ?_)
  refine Av F fun A F => ?_
  refine Zv F (Bn (uN (n00 / 4294967296#64)) F rfl rfl rfl (i_quo64 n00 4294967296#64 (by decide))) fun A F => ?_
  refine Av F fun A F => ?_
  refine Sx.nil (hK14 _ _ (Sx.plain ?_))
  refine Av F fun A F => ?_
  refine Zv F (Bn (iI 1) F rfl rfl rfl (i_addS (by decide))) fun A F => ?_
  refine Av F fun A F => ?_
  refine Sx.nil ?_
  try dsimp only [Exit.then, Exit.noGoto]
  rw [rounds_succ]
  refine Sx.seq fun K17 hK17 => Sp fun _ kk => ?_
  iterate 2 (refine Av F ?_; intro A F)
  refine Zv F (Bn (iI 1) F rfl rfl rfl (i_addS (by decide))) fun A F => ?_
  refine Av F fun A F => ?_
  refine Nl kk (condT F rfl (wp_skip (hK17 _ _ (Sx.seq fun K19 hK19 => wp_block (Sx.seq fun K20 hK20 => ?_)))))
  have F := F.tq [(4, pT g3 0), (5, pT g4 0), (6, pT g5 0), (7, pT g6 0), (8, iI 0), (18, bT), (9, uN (n00 / 4294967296#64)), (10, iI 1), (24, bT)] rfl
  refine Dn F [some (iI 0), some (iI 1), some (iI 1), some (pT g6 1), some (iU 0), some (iI 0), some (pT g4 0), some (uN (Wd.lo da % 4294967296#64)), some (iI 1), some (pT g5 1), some (uN (Wd.lo db / 4294967296#64)), some (uN ((Wd.lo da % 4294967296#64) * (Wd.lo db / 4294967296#64))), some (uN (0#64 + ((Wd.lo da % 4294967296#64) * (Wd.lo db / 4294967296#64)))), some (uN (n00 / 4294967296#64)), some (uN ((0#64 + ((Wd.lo da % 4294967296#64) * (Wd.lo db / 4294967296#64))) + (n00 / 4294967296#64))), some (uN ((0#64 + ((Wd.lo da % 4294967296#64) * (Wd.lo db / 4294967296#64))) + (n00 / 4294967296#64)))] (fun L A w => Sx.Own w0 w [(true, g6, [uN (n00 % 4294967296#64), iU 0, iU 0, iU 0]), (true, g5, (L17 db)), (true, g4, (L17 da)), (true, g3, L1), (true, g2, [uH db, uL db]), (true, g1, [uH da, uL da])] []) H.drew ?_ ?_
  ·refine ⟨?_, ?_, ?_, ?_, ?_, ?_, ?_, ?_, ?_, ?_, ?_, ?_, ?_, ?_, ?_, ?_, trivial⟩
   ·exact Sa
   ·exact Sa
   ·exact SV (fun _ _ _ F _ => Bn (iI 1) F rfl rfl rfl (i_addS (by decide)))
   ·exact SV (fun _ _ _ F _ => d_iaddr (v := pT g6 1) F rfl rfl rfl (by kernel_rfl))
   ·exact SV (fun _ _ _ F H => Ld 0 one_22 F H)
   ·exact Sa
   ·exact SV (fun _ _ _ F _ => d_iaddr (v := pT g4 0) F rfl rfl rfl (by kernel_rfl))
   ·exact SV (fun _ _ _ F H => Ld 2 one_22 F H)
   ·exact Sa
   ·exact SV (fun _ _ _ F _ => d_iaddr (v := pT g5 1) F rfl rfl rfl (by kernel_rfl))
   ·exact SV (fun _ _ _ F H => Ld 1 one_22 F H)
   ·exact SV (fun _ _ _ F _ => Bn (uN ((Wd.lo da % 4294967296#64) * (Wd.lo db / 4294967296#64))) F rfl rfl rfl (i_mul64 (Wd.lo da % 4294967296#64) (Wd.lo db / 4294967296#64)))
   ·exact SV (fun _ _ _ F _ => Bn (uN (0#64 + ((Wd.lo da % 4294967296#64) * (Wd.lo db / 4294967296#64)))) F rfl rfl rfl (i_add64 0#64 ((Wd.lo da % 4294967296#64) * (Wd.lo db / 4294967296#64))))
   ·exact Sa
   ·exact SV (fun _ _ _ F _ => Bn (uN ((0#64 + ((Wd.lo da % 4294967296#64) * (Wd.lo db / 4294967296#64))) + (n00 / 4294967296#64))) F rfl rfl rfl (i_add64 (0#64 + ((Wd.lo da % 4294967296#64) * (Wd.lo db / 4294967296#64))) (n00 / 4294967296#64)))
   ·exact Sa
  ·intro L A w hL F H
   have F := F.tq [(4, pT g3 0), (5, pT g4 0), (6, pT g5 0), (7, pT g6 0), (8, iI 0), (18, bT), (9, uN (n00 / 4294967296#64)), (10, iI 1), (24, bT), (11, uN ((0#64 + ((Wd.lo da % 4294967296#64) * (Wd.lo db / 4294967296#64))) + (n00 / 4294967296#64)))] rfl
   obtain ⟨n01, hn01⟩ : ∃ q, ((0#64 + ((Wd.lo da % 4294967296#64) * (Wd.lo db / 4294967296#64))) + (n00 / 4294967296#64)) = q := ⟨_, rfl⟩
   rw [hn01] at F
   refine hK20 _ _ (Sp fun _ kk => ?_)
   iterate 2 (refine Av F ?_; intro A F)
   refine Zv F (Bn (iI 1) F rfl rfl rfl (i_addS (by decide))) fun A F => ?_
   refine Av F fun A F => ?_
   refine Zv F (Bn (uN (n01 % 4294967296#64)) F rfl rfl rfl (i_rem64 n01 4294967296#64 (by decide))) fun A F => ?_
   refine Zv F (d_iaddr (v := pT g6 1) F rfl rfl rfl (by kernel_rfl)) fun A F => ?_
   refine Zs 0 [uN (n00 % 4294967296#64), uN (n01 % 4294967296#64), iU 0, iU 0] sz_22 F H fun A w F H => ?_
   refine Nl kk (Sx.plain ?_)
   refine Av F fun A F => ?_
   refine Zv F (Bn (uN (n01 / 4294967296#64)) F rfl rfl rfl (i_quo64 n01 4294967296#64 (by decide))) fun A F => ?_
   refine Av F fun A F => ?_
   refine Sx.nil (hK19 _ _ (Sx.plain ?_))
   refine Av F fun A F => ?_
   refine Zv F (Bn (iI 2) F rfl rfl rfl (i_addS (by decide))) fun A F => ?_
   refine Av F fun A F => ?_
   refine Sx.nil ?_
   try dsimp only [Exit.then, Exit.noGoto]
   rw [rounds_succ]
   refine Sx.seq fun K22 hK22 => Sp fun _ kk => ?_
   iterate 2 (refine Av F ?_; intro A F)
   refine Zv F (Bn (iI 2) F rfl rfl rfl (i_addS (by decide))) fun A F => ?_
   refine Av F fun A F => ?_
   refine Nl kk (condT F rfl (wp_skip (hK22 _ _ (Sx.seq fun K24 hK24 => wp_block (Sx.seq fun K25 hK25 => ?_)))))
   have F := F.tq [(4, pT g3 0), (5, pT g4 0), (6, pT g5 0), (7, pT g6 0), (8, iI 0), (18, bT), (9, uN (n01 / 4294967296#64)), (10, iI 2), (24, bT)] rfl
   refine Dn F [some (iI 0), some (iI 2), some (iI 2), some (pT g6 2), some (iU 0), some (iI 0), some (pT g4 0), some (uN (Wd.lo da % 4294967296#64)), some (iI 2), some (pT g5 2), some (uN (Wd.hi db % 4294967296#64)), some (uN ((Wd.lo da % 4294967296#64) * (Wd.hi db % 4294967296#64))), some (uN (0#64 + ((Wd.lo da % 4294967296#64) * (Wd.hi db % 4294967296#64)))), some (uN (n01 / 4294967296#64)), some (uN ((0#64 + ((Wd.lo da % 4294967296#64) * (Wd.hi db % 4294967296#64))) + (n01 / 4294967296#64))), some (uN ((0#64 + ((Wd.lo da % 4294967296#64) * (Wd.hi db % 4294967296#64))) + (n01 / 4294967296#64)))] (fun L A w => Sx.Own w0 w [(true, g6, [uN (n00 % 4294967296#64), uN (n01 % 4294967296#64), iU 0, iU 0]), (true, g5, (L17 db)), (true, g4, (L17 da)), (true, g3, L1), (true, g2, [uH db, uL db]), (true, g1, [uH da, uL da])] []) H.drew ?_ ?_
   ·refine ⟨?_, ?_, ?_, ?_, ?_, ?_, ?_, ?_, ?_, ?_, ?_, ?_, ?_, ?_, ?_, ?_, trivial⟩
    ·exact Sa
    ·exact Sa
    ·exact SV (fun _ _ _ F _ => Bn (iI 2) F rfl rfl rfl (i_addS (by decide)))
    ·exact SV (fun _ _ _ F _ => d_iaddr (v := pT g6 2) F rfl rfl rfl (by kernel_rfl))
    ·exact SV (fun _ _ _ F H => Ld 0 one_22 F H)
    ·exact Sa
    ·exact SV (fun _ _ _ F _ => d_iaddr (v := pT g4 0) F rfl rfl rfl (by kernel_rfl))
    ·exact SV (fun _ _ _ F H => Ld 2 one_22 F H)
    ·exact Sa
    ·exact SV (fun _ _ _ F _ => d_iaddr (v := pT g5 2) F rfl rfl rfl (by kernel_rfl))
    ·exact SV (fun _ _ _ F H => Ld 1 one_22 F H)
    ·exact SV (fun _ _ _ F _ => Bn (uN ((Wd.lo da % 4294967296#64) * (Wd.hi db % 4294967296#64))) F rfl rfl rfl (i_mul64 (Wd.lo da % 4294967296#64) (Wd.hi db % 4294967296#64)))
    ·exact SV (fun _ _ _ F _ => Bn (uN (0#64 + ((Wd.lo da % 4294967296#64) * (Wd.hi db % 4294967296#64)))) F rfl rfl rfl (i_add64 0#64 ((Wd.lo da % 4294967296#64) * (Wd.hi db % 4294967296#64))))
    ·exact Sa
    ·exact SV (fun _ _ _ F _ => Bn (uN ((0#64 + ((Wd.lo da % 4294967296#64) * (Wd.hi db % 4294967296#64))) + (n01 / 4294967296#64))) F rfl rfl rfl (i_add64 (0#64 + ((Wd.lo da % 4294967296#64) * (Wd.hi db % 4294967296#64))) (n01 / 4294967296#64)))
    ·exact Sa
   ·intro L A w hL F H
    have F := F.tq [(4, pT g3 0), (5, pT g4 0), (6, pT g5 0), (7, pT g6 0), (8, iI 0), (18, bT), (9, uN (n01 / 4294967296#64)), (10, iI 2), (24, bT), (11, uN ((0#64 + ((Wd.lo da % 4294967296#64) * (Wd.hi db % 4294967296#64))) + (n01 / 4294967296#64)))] rfl
    obtain ⟨n02, hn02⟩ : ∃ q, ((0#64 + ((Wd.lo da % 4294967296#64) * (Wd.hi db % 4294967296#64))) + (n01 / 4294967296#64)) = q := ⟨_, rfl⟩
    rw [hn02] at F
    refine hK25 _ _ (Sp fun _ kk => ?_)
    iterate 2 (refine Av F ?_; intro A F)
    refine Zv F (Bn (iI 2) F rfl rfl rfl (i_addS (by decide))) fun A F => ?_
    refine Av F fun A F => ?_
    refine Zv F (Bn (uN (n02 % 4294967296#64)) F rfl rfl rfl (i_rem64 n02 4294967296#64 (by decide))) fun A F => ?_
    refine Zv F (d_iaddr (v := pT g6 2) F rfl rfl rfl (by kernel_rfl)) fun A F => ?_
    refine Zs 0 [uN (n00 % 4294967296#64), uN (n01 % 4294967296#64), uN (n02 % 4294967296#64), iU 0] sz_22 F H fun A w F H => ?_
    refine Nl kk (Sx.plain ?_)
    refine Av F fun A F => ?_
    refine Zv F (Bn (uN (n02 / 4294967296#64)) F rfl rfl rfl (i_quo64 n02 4294967296#64 (by decide))) fun A F => ?_
    refine Av F fun A F => ?_
    refine Sx.nil (hK24 _ _ (Sx.plain ?_))
    refine Av F fun A F => ?_
    refine Zv F (Bn (iI 3) F rfl rfl rfl (i_addS (by decide))) fun A F => ?_
    refine Av F fun A F => ?_
    refine Sx.nil ?_
    try dsimp only [Exit.then, Exit.noGoto]
    rw [rounds_succ]
    refine Sx.seq fun K27 hK27 => Sp fun _ kk => ?_
    iterate 2 (refine Av F ?_; intro A F)
    refine Zv F (Bn (iI 3) F rfl rfl rfl (i_addS (by decide))) fun A F => ?_
    refine Av F fun A F => ?_
    refine Nl kk (condT F rfl (wp_skip (hK27 _ _ (Sx.seq fun K29 hK29 => wp_block (Sx.seq fun K30 hK30 => ?_)))))
    have F := F.tq [(4, pT g3 0), (5, pT g4 0), (6, pT g5 0), (7, pT g6 0), (8, iI 0), (18, bT), (9, uN (n02 / 4294967296#64)), (10, iI 3), (24, bT)] rfl
    refine Dn F [some (iI 0), some (iI 3), some (iI 3), some (pT g6 3), some (iU 0), some (iI 0), some (pT g4 0), some (uN (Wd.lo da % 4294967296#64)), some (iI 3), some (pT g5 3), some (uN (Wd.hi db / 4294967296#64)), some (uN ((Wd.lo da % 4294967296#64) * (Wd.hi db / 4294967296#64))), some (uN (0#64 + ((Wd.lo da % 4294967296#64) * (Wd.hi db / 4294967296#64)))), some (uN (n02 / 4294967296#64)), some (uN ((0#64 + ((Wd.lo da % 4294967296#64) * (Wd.hi db / 4294967296#64))) + (n02 / 4294967296#64))), some (uN ((0#64 + ((Wd.lo da % 4294967296#64) * (Wd.hi db / 4294967296#64))) + (n02 / 4294967296#64)))] (fun L A w => Sx.Own w0 w [(true, g6, [uN (n00 % 4294967296#64), uN (n01 % 4294967296#64), uN (n02 % 4294967296#64), iU 0]), (true, g5, (L17 db)), (true, g4, (L17 da)), (true, g3, L1), (true, g2, [uH db, uL db]), (true, g1, [uH da, uL da])] []) H.drew ?_ ?_
    ·refine ⟨?_, ?_, ?_, ?_, ?_, ?_, ?_, ?_, ?_, ?_, ?_, ?_, ?_, ?_, ?_, ?_, trivial⟩
     ·exact Sa
     ·exact Sa
     ·exact SV (fun _ _ _ F _ => Bn (iI 3) F rfl rfl rfl (i_addS (by decide)))
     ·exact SV (fun _ _ _ F _ => d_iaddr (v := pT g6 3) F rfl rfl rfl (by kernel_rfl))
     ·exact SV (fun _ _ _ F H => Ld 0 one_22 F H)
     ·exact Sa
     ·exact SV (fun _ _ _ F _ => d_iaddr (v := pT g4 0) F rfl rfl rfl (by kernel_rfl))
     ·exact SV (fun _ _ _ F H => Ld 2 one_22 F H)
     ·exact Sa
     ·exact SV (fun _ _ _ F _ => d_iaddr (v := pT g5 3) F rfl rfl rfl (by kernel_rfl))
     ·exact SV (fun _ _ _ F H => Ld 1 one_22 F H)
     ·exact SV (fun _ _ _ F _ => Bn (uN ((Wd.lo da % 4294967296#64) * (Wd.hi db / 4294967296#64))) F rfl rfl rfl (i_mul64 (Wd.lo da % 4294967296#64) (Wd.hi db / 4294967296#64)))
     ·exact SV (fun _ _ _ F _ => Bn (uN (0#64 + ((Wd.lo da % 4294967296#64) * (Wd.hi db / 4294967296#64)))) F rfl rfl rfl (i_add64 0#64 ((Wd.lo da % 4294967296#64) * (Wd.hi db / 4294967296#64))))
     ·exact Sa
     ·exact SV (fun _ _ _ F _ => Bn (uN ((0#64 + ((Wd.lo da % 4294967296#64) * (Wd.hi db / 4294967296#64))) + (n02 / 4294967296#64))) F rfl rfl rfl (i_add64 (0#64 + ((Wd.lo da % 4294967296#64) * (Wd.hi db / 4294967296#64))) (n02 / 4294967296#64)))
     ·exact Sa
    ·intro L A w hL F H
     have F := F.tq [(4, pT g3 0), (5, pT g4 0), (6, pT g5 0), (7, pT g6 0), (8, iI 0), (18, bT), (9, uN (n02 / 4294967296#64)), (10, iI 3), (24, bT), (11, uN ((0#64 + ((Wd.lo da % 4294967296#64) * (Wd.hi db / 4294967296#64))) + (n02 / 4294967296#64)))] rfl
     obtain ⟨n03, hn03⟩ : ∃ q, ((0#64 + ((Wd.lo da % 4294967296#64) * (Wd.hi db / 4294967296#64))) + (n02 / 4294967296#64)) = q := ⟨_, rfl⟩
     rw [hn03] at F
     refine hK30 _ _ (Sp fun _ kk => ?_)
     iterate 2 (refine Av F ?_; intro A F)
     refine Zv F (Bn (iI 3) F rfl rfl rfl (i_addS (by decide))) fun A F => ?_
     refine Av F fun A F => ?_
     refine Zv F (Bn (uN (n03 % 4294967296#64)) F rfl rfl rfl (i_rem64 n03 4294967296#64 (by decide))) fun A F => ?_
     refine Zv F (d_iaddr (v := pT g6 3) F rfl rfl rfl (by kernel_rfl)) fun A F => ?_
     refine Zs 0 [uN (n00 % 4294967296#64), uN (n01 % 4294967296#64), uN (n02 % 4294967296#64), uN (n03 % 4294967296#64)] sz_22 F H fun A w F H => ?_
     refine Nl kk (Sx.plain ?_)
     refine Av F fun A F => ?_
     refine Zv F (Bn (uN (n03 / 4294967296#64)) F rfl rfl rfl (i_quo64 n03 4294967296#64 (by decide))) fun A F => ?_
     refine Av F fun A F => ?_
     refine Sx.nil (hK29 _ _ (Sx.plain ?_))
     refine Av F fun A F => ?_
     refine Zv F (Bn (iI 4) F rfl rfl rfl (i_addS (by decide))) fun A F => ?_
     refine Av F fun A F => ?_
     refine Sx.nil ?_
     try dsimp only [Exit.then, Exit.noGoto]
     rw [rounds_succ]
     refine Sx.seq fun K32 hK32 => Sp fun _ kk => ?_
     iterate 2 (refine Av F ?_; intro A F)
     refine Zv F (Bn (iI 4) F rfl rfl rfl (i_addS (by decide))) fun A F => ?_
     refine Av F fun A F => ?_
     refine Nl kk (condF F rfl (wp_exit ?_))
     try dsimp only [Exit.then, Exit.jump, Exit.noGoto]
     refine exit_here (hK9 _ _ (Sx.plain ?_))
     refine Av F fun A F => ?_
     refine Zv F (Bn (iI 1) F rfl rfl rfl (i_addS (by decide))) fun A F => ?_
     refine Av F fun A F => ?_
     refine Sx.nil ?_
     try dsimp only [Exit.then, Exit.noGoto]
     rw [rounds_succ]
     refine Sx.seq fun K34 hK34 => Sp fun _ kk => ?_
     iterate 2 (refine Av F ?_; intro A F)
     refine Nl kk (condT F rfl (wp_skip (hK34 _ _ (Sx.seq fun K36 hK36 => wp_block (Sp fun _ kk => Av F fun A F => ?_)))))
     refine Nl kk (Sp fun _ kk => Av F fun A F => ?_)
     refine Nl kk (wp_block (wp_loop_rounds 5 ?_))
     try dsimp only [Exit.then, Exit.noGoto]
     rw [rounds_succ]
     refine Sx.seq fun K39 hK39 => Sp fun _ kk => ?_
     iterate 2 (refine Av F ?_; intro A F)
     refine Zv F (Bn (iI 1) F rfl rfl rfl (i_addS (by decide))) fun A F => ?_
     refine Av F fun A F => ?_
     refine Nl kk (condT F rfl (wp_skip (hK39 _ _ (Sx.seq fun K41 hK41 => wp_block (Sx.seq fun K42 hK42 => ?_)))))
     have F := F.tq [(4, pT g3 0), (5, pT g4 0), (6, pT g5 0), (7, pT g6 0), (8, iI 1), (18, bT), (9, iU 0), (10, iI 0), (24, bT)] rfl
     refine Dn F [some (iI 1), some (iI 0), some (iI 1), some (pT g6 1), some (uN (n01 % 4294967296#64)), some (iI 1), some (pT g4 1), some (uN (Wd.lo da / 4294967296#64)), some (iI 0), some (pT g5 0), some (uN (Wd.lo db % 4294967296#64)), some (uN ((Wd.lo da / 4294967296#64) * (Wd.lo db % 4294967296#64))), some (uN ((n01 % 4294967296#64) + ((Wd.lo da / 4294967296#64) * (Wd.lo db % 4294967296#64)))), some (iU 0), some (uN (((n01 % 4294967296#64) + ((Wd.lo da / 4294967296#64) * (Wd.lo db % 4294967296#64))) + 0#64)), some (uN (((n01 % 4294967296#64) + ((Wd.lo da / 4294967296#64) * (Wd.lo db % 4294967296#64))) + 0#64))] (fun L A w => Sx.Own w0 w [(true, g6, [uN (n00 % 4294967296#64), uN (n01 % 4294967296#64), uN (n02 % 4294967296#64), uN (n03 % 4294967296#64)]), (true, g5, (L17 db)), (true, g4, (L17 da)), (true, g3, L1), (true, g2, [uH db, uL db]), (true, g1, [uH da, uL da])] []) H.drew ?_ ?_
     ·refine ⟨?_, ?_, ?_, ?_, ?_, ?_, ?_, ?_, ?_, ?_, ?_, ?_, ?_, ?_, ?_, ?_, trivial⟩
      ·exact Sa
      ·exact Sa
      ·exact SV (fun _ _ _ F _ => Bn (iI 1) F rfl rfl rfl (i_addS (by decide)))
      ·exact SV (fun _ _ _ F _ => d_iaddr (v := pT g6 1) F rfl rfl rfl (by kernel_rfl))
      ·exact SV (fun _ _ _ F H => Ld 0 one_22 F H)
      ·exact Sa
      ·exact SV (fun _ _ _ F _ => d_iaddr (v := pT g4 1) F rfl rfl rfl (by kernel_rfl))
      ·exact SV (fun _ _ _ F H => Ld 2 one_22 F H)
      ·exact Sa
      ·exact SV (fun _ _ _ F _ => d_iaddr (v := pT g5 0) F rfl rfl rfl (by kernel_rfl))
      ·exact SV (fun _ _ _ F H => Ld 1 one_22 F H)
      ·exact SV (fun _ _ _ F _ => Bn (uN ((Wd.lo da / 4294967296#64) * (Wd.lo db % 4294967296#64))) F rfl rfl rfl (i_mul64 (Wd.lo da / 4294967296#64) (Wd.lo db % 4294967296#64)))
      ·exact SV (fun _ _ _ F _ => Bn (uN ((n01 % 4294967296#64) + ((Wd.lo da / 4294967296#64) * (Wd.lo db % 4294967296#64)))) F rfl rfl rfl (i_add64 (n01 % 4294967296#64) ((Wd.lo da / 4294967296#64) * (Wd.lo db % 4294967296#64))))
      ·exact Sa
      ·exact SV (fun _ _ _ F _ => Bn (uN (((n01 % 4294967296#64) + ((Wd.lo da / 4294967296#64) * (Wd.lo db % 4294967296#64))) + 0#64)) F rfl rfl rfl (i_add64 ((n01 % 4294967296#64) + ((Wd.lo da / 4294967296#64) * (Wd.lo db % 4294967296#64))) 0#64))
      ·exact Sa
     ·intro L A w hL F H
      have F := F.tq [(4, pT g3 0), (5, pT g4 0), (6, pT g5 0), (7, pT g6 0), (8, iI 1), (18, bT), (9, iU 0), (10, iI 0), (24, bT), (11, uN (((n01 % 4294967296#64) + ((Wd.lo da / 4294967296#64) * (Wd.lo db % 4294967296#64))) + 0#64))] rfl
      obtain ⟨n10, hn10⟩ : ∃ q, (((n01 % 4294967296#64) + ((Wd.lo da / 4294967296#64) * (Wd.lo db % 4294967296#64))) + 0#64) = q := ⟨_, rfl⟩
      rw [hn10] at F
      refine hK42 _ _ (Sp fun _ kk => ?_)
      iterate 2 (refine Av F ?_; intro A F)
      refine Zv F (Bn (iI 1) F rfl rfl rfl (i_addS (by decide))) fun A F => ?_
      refine Av F fun A F => ?_
      refine Zv F (Bn (uN (n10 % 4294967296#64)) F rfl rfl rfl (i_rem64 n10 4294967296#64 (by decide))) fun A F => ?_
      refine Zv F (d_iaddr (v := pT g6 1) F rfl rfl rfl (by kernel_rfl)) fun A F => ?_
      refine Zs 0 [uN (n00 % 4294967296#64), uN (n10 % 4294967296#64), uN (n02 % 4294967296#64), uN (n03 % 4294967296#64)] sz_22 F H fun A w F H => ?_
      refine Nl kk (Sx.plain ?_)
      refine Av F fun A F => ?_
      refine Zv F (Bn (uN (n10 / 4294967296#64)) F rfl rfl rfl (i_quo64 n10 4294967296#64 (by decide))) fun A F => ?_
      refine Av F fun A F => ?_
      refine Sx.nil (hK41 _ _ (Sx.plain ?_))
      refine Av F fun A F => ?_
      refine Zv F (Bn (iI 1) F rfl rfl rfl (i_addS (by decide))) fun A F => ?_
      refine Av F fun A F => ?_
      refine Sx.nil ?_
      try dsimp only [Exit.then, Exit.noGoto]
      rw [rounds_succ]
      refine Sx.seq fun K44 hK44 => Sp fun _ kk => ?_
      iterate 2 (refine Av F ?_; intro A F)
      refine Zv F (Bn (iI 2) F rfl rfl rfl (i_addS (by decide))) fun A F => ?_
      refine Av F fun A F => ?_
      refine Nl kk (condT F rfl (wp_skip (hK44 _ _ (Sx.seq fun K46 hK46 => wp_block (Sx.seq fun K47 hK47 => ?_)))))
      have F := F.tq [(4, pT g3 0), (5, pT g4 0), (6, pT g5 0), (7, pT g6 0), (8, iI 1), (18, bT), (9, uN (n10 / 4294967296#64)), (10, iI 1), (24, bT)] rfl
      refine Dn F [some (iI 1), some (iI 1), some (iI 2), some (pT g6 2), some (uN (n02 % 4294967296#64)), some (iI 1), some (pT g4 1), some (uN (Wd.lo da / 4294967296#64)), some (iI 1), some (pT g5 1), some (uN (Wd.lo db / 4294967296#64)), some (uN ((Wd.lo da / 4294967296#64) * (Wd.lo db / 4294967296#64))), some (uN ((n02 % 4294967296#64) + ((Wd.lo da / 4294967296#64) * (Wd.lo db / 4294967296#64)))), some (uN (n10 / 4294967296#64)), some (uN (((n02 % 4294967296#64) + ((Wd.lo da / 4294967296#64) * (Wd.lo db / 4294967296#64))) + (n10 / 4294967296#64))), some (uN (((n02 % 4294967296#64) + ((Wd.lo da / 4294967296#64) * (Wd.lo db / 4294967296#64))) + (n10 / 4294967296#64)))] (fun L A w => Sx.Own w0 w [(true, g6, [uN (n00 % 4294967296#64), uN (n10 % 4294967296#64), uN (n02 % 4294967296#64), uN (n03 % 4294967296#64)]), (true, g5, (L17 db)), (true, g4, (L17 da)), (true, g3, L1), (true, g2, [uH db, uL db]), (true, g1, [uH da, uL da])] []) H.drew ?_ ?_
      ·refine ⟨?_, ?_, ?_, ?_, ?_, ?_, ?_, ?_, ?_, ?_, ?_, ?_, ?_, ?_, ?_, ?_, trivial⟩
       ·exact Sa
       ·exact Sa
       ·exact SV (fun _ _ _ F _ => Bn (iI 2) F rfl rfl rfl (i_addS (by decide)))
       ·exact SV (fun _ _ _ F _ => d_iaddr (v := pT g6 2) F rfl rfl rfl (by kernel_rfl))
       ·exact SV (fun _ _ _ F H => Ld 0 one_22 F H)
       ·exact Sa
       ·exact SV (fun _ _ _ F _ => d_iaddr (v := pT g4 1) F rfl rfl rfl (by kernel_rfl))
       ·exact SV (fun _ _ _ F H => Ld 2 one_22 F H)
       ·exact Sa
       ·exact SV (fun _ _ _ F _ => d_iaddr (v := pT g5 1) F rfl rfl rfl (by kernel_rfl))
       ·exact SV (fun _ _ _ F H => Ld 1 one_22 F H)
       ·exact SV (fun _ _ _ F _ => Bn (uN ((Wd.lo da / 4294967296#64) * (Wd.lo db / 4294967296#64))) F rfl rfl rfl (i_mul64 (Wd.lo da / 4294967296#64) (Wd.lo db / 4294967296#64)))
       ·exact SV (fun _ _ _ F _ => Bn (uN ((n02 % 4294967296#64) + ((Wd.lo da / 4294967296#64) * (Wd.lo db / 4294967296#64)))) F rfl rfl rfl (i_add64 (n02 % 4294967296#64) ((Wd.lo da / 4294967296#64) * (Wd.lo db / 4294967296#64))))
       ·exact Sa
       ·exact SV (fun _ _ _ F _ => Bn (uN (((n02 % 4294967296#64) + ((Wd.lo da / 4294967296#64) * (Wd.lo db / 4294967296#64))) + (n10 / 4294967296#64))) F rfl rfl rfl (i_add64 ((n02 % 4294967296#64) + ((Wd.lo da / 4294967296#64) * (Wd.lo db / 4294967296#64))) (n10 / 4294967296#64)))
       ·exact Sa
      ·intro L A w hL F H
       have F := F.tq [(4, pT g3 0), (5, pT g4 0), (6, pT g5 0), (7, pT g6 0), (8, iI 1), (18, bT), (9, uN (n10 / 4294967296#64)), (10, iI 1), (24, bT), (11, uN (((n02 % 4294967296#64) + ((Wd.lo da / 4294967296#64) * (Wd.lo db / 4294967296#64))) + (n10 / 4294967296#64)))] rfl
       obtain ⟨n11, hn11⟩ : ∃ q, (((n02 % 4294967296#64) + ((Wd.lo da / 4294967296#64) * (Wd.lo db / 4294967296#64))) + (n10 / 4294967296#64)) = q := ⟨_, rfl⟩
       rw [hn11] at F
       refine hK47 _ _ (Sp fun _ kk => ?_)
       iterate 2 (refine Av F ?_; intro A F)
       refine Zv F (Bn (iI 2) F rfl rfl rfl (i_addS (by decide))) fun A F => ?_
       refine Av F fun A F => ?_
       refine Zv F (Bn (uN (n11 % 4294967296#64)) F rfl rfl rfl (i_rem64 n11 4294967296#64 (by decide))) fun A F => ?_
       refine Zv F (d_iaddr (v := pT g6 2) F rfl rfl rfl (by kernel_rfl)) fun A F => ?_
       refine Zs 0 [uN (n00 % 4294967296#64), uN (n10 % 4294967296#64), uN (n11 % 4294967296#64), uN (n03 % 4294967296#64)] sz_22 F H fun A w F H => ?_
       refine Nl kk (Sx.plain ?_)
       refine Av F fun A F => ?_
       refine Zv F (Bn (uN (n11 / 4294967296#64)) F rfl rfl rfl (i_quo64 n11 4294967296#64 (by decide))) fun A F => ?_
       refine Av F fun A F => ?_
       refine Sx.nil (hK46 _ _ (Sx.plain ?_))
       refine Av F fun A F => ?_
       refine Zv F (Bn (iI 2) F rfl rfl rfl (i_addS (by decide))) fun A F => ?_
       refine Av F fun A F => ?_
       refine Sx.nil ?_
       try dsimp only [Exit.then, Exit.noGoto]
       rw [rounds_succ]
       refine Sx.seq fun K49 hK49 => Sp fun _ kk => ?_
       iterate 2 (refine Av F ?_; intro A F)
       refine Zv F (Bn (iI 3) F rfl rfl rfl (i_addS (by decide))) fun A F => ?_
       refine Av F fun A F => ?_
       refine Nl kk (condT F rfl (wp_skip (hK49 _ _ (Sx.seq fun K51 hK51 => wp_block (Sx.seq fun K52 hK52 => ?_)))))
       have F := F.tq [(4, pT g3 0), (5, pT g4 0), (6, pT g5 0), (7, pT g6 0), (8, iI 1), (18, bT), (9, uN (n11 / 4294967296#64)), (10, iI 2), (24, bT)] rfl
       refine Dn F [some (iI 1), some (iI 2), some (iI 3), some (pT g6 3), some (uN (n03 % 4294967296#64)), some (iI 1), some (pT g4 1), some (uN (Wd.lo da / 4294967296#64)), some (iI 2), some (pT g5 2), some (uN (Wd.hi db % 4294967296#64)), some (uN ((Wd.lo da / 4294967296#64) * (Wd.hi db % 4294967296#64))), some (uN ((n03 % 4294967296#64) + ((Wd.lo da / 4294967296#64) * (Wd.hi db % 4294967296#64)))), some (uN (n11 / 4294967296#64)), some (uN (((n03 % 4294967296#64) + ((Wd.lo da / 4294967296#64) * (Wd.hi db % 4294967296#64))) + (n11 / 4294967296#64))), some (uN (((n03 % 4294967296#64) + ((Wd.lo da / 4294967296#64) * (Wd.hi db % 4294967296#64))) + (n11 / 4294967296#64)))] (fun L A w => Sx.Own w0 w [(true, g6, [uN (n00 % 4294967296#64), uN (n10 % 4294967296#64), uN (n11 % 4294967296#64), uN (n03 % 4294967296#64)]), (true, g5, (L17 db)), (true, g4, (L17 da)), (true, g3, L1), (true, g2, [uH db, uL db]), (true, g1, [uH da, uL da])] []) H.drew ?_ ?_
       ·refine ⟨?_, ?_, ?_, ?_, ?_, ?_, ?_, ?_, ?_, ?_, ?_, ?_, ?_, ?_, ?_, ?_, trivial⟩
        ·exact Sa
        ·exact Sa
        ·exact SV (fun _ _ _ F _ => Bn (iI 3) F rfl rfl rfl (i_addS (by decide)))
        ·exact SV (fun _ _ _ F _ => d_iaddr (v := pT g6 3) F rfl rfl rfl (by kernel_rfl))
        ·exact SV (fun _ _ _ F H => Ld 0 one_22 F H)
        ·exact Sa
        ·exact SV (fun _ _ _ F _ => d_iaddr (v := pT g4 1) F rfl rfl rfl (by kernel_rfl))
        ·exact SV (fun _ _ _ F H => Ld 2 one_22 F H)
        ·exact Sa
        ·exact SV (fun _ _ _ F _ => d_iaddr (v := pT g5 2) F rfl rfl rfl (by kernel_rfl))
        ·exact SV (fun _ _ _ F H => Ld 1 one_22 F H)
        ·exact SV (fun _ _ _ F _ => Bn (uN ((Wd.lo da / 4294967296#64) * (Wd.hi db % 4294967296#64))) F rfl rfl rfl (i_mul64 (Wd.lo da / 4294967296#64) (Wd.hi db % 4294967296#64)))
        ·exact SV (fun _ _ _ F _ => Bn (uN ((n03 % 4294967296#64) + ((Wd.lo da / 4294967296#64) * (Wd.hi db % 4294967296#64)))) F rfl rfl rfl (i_add64 (n03 % 4294967296#64) ((Wd.lo da / 4294967296#64) * (Wd.hi db % 4294967296#64))))
        ·exact Sa
        ·exact SV (fun _ _ _ F _ => Bn (uN (((n03 % 4294967296#64) + ((Wd.lo da / 4294967296#64) * (Wd.hi db % 4294967296#64))) + (n11 / 4294967296#64))) F rfl rfl rfl (i_add64 ((n03 % 4294967296#64) + ((Wd.lo da / 4294967296#64) * (Wd.hi db % 4294967296#64))) (n11 / 4294967296#64)))
        ·exact Sa
       ·intro L A w hL F H
        have F := F.tq [(4, pT g3 0), (5, pT g4 0), (6, pT g5 0), (7, pT g6 0), (8, iI 1), (18, bT), (9, uN (n11 / 4294967296#64)), (10, iI 2), (24, bT), (11, uN (((n03 % 4294967296#64) + ((Wd.lo da / 4294967296#64) * (Wd.hi db % 4294967296#64))) + (n11 / 4294967296#64)))] rfl
        obtain ⟨n12, hn12⟩ : ∃ q, (((n03 % 4294967296#64) + ((Wd.lo da / 4294967296#64) * (Wd.hi db % 4294967296#64))) + (n11 / 4294967296#64)) = q := ⟨_, rfl⟩
        rw [hn12] at F
        refine hK52 _ _ (Sp fun _ kk => ?_)
        iterate 2 (refine Av F ?_; intro A F)
        refine Zv F (Bn (iI 3) F rfl rfl rfl (i_addS (by decide))) fun A F => ?_
        refine Av F fun A F => ?_
        refine Zv F (Bn (uN (n12 % 4294967296#64)) F rfl rfl rfl (i_rem64 n12 4294967296#64 (by decide))) fun A F => ?_
        refine Zv F (d_iaddr (v := pT g6 3) F rfl rfl rfl (by kernel_rfl)) fun A F => ?_
        refine Zs 0 [uN (n00 % 4294967296#64), uN (n10 % 4294967296#64), uN (n11 % 4294967296#64), uN (n12 % 4294967296#64)] sz_22 F H fun A w F H => ?_
        refine Nl kk (Sx.plain ?_)
        refine Av F fun A F => ?_
        refine Zv F (Bn (uN (n12 / 4294967296#64)) F rfl rfl rfl (i_quo64 n12 4294967296#64 (by decide))) fun A F => ?_
        refine Av F fun A F => ?_
        refine Sx.nil (hK51 _ _ (Sx.plain ?_))
        refine Av F fun A F => ?_
        refine Zv F (Bn (iI 3) F rfl rfl rfl (i_addS (by decide))) fun A F => ?_
        refine Av F fun A F => ?_
        refine Sx.nil ?_
        try dsimp only [Exit.then, Exit.noGoto]
        rw [rounds_succ]
        refine Sx.seq fun K54 hK54 => Sp fun _ kk => ?_
        iterate 2 (refine Av F ?_; intro A F)
        refine Zv F (Bn (iI 4) F rfl rfl rfl (i_addS (by decide))) fun A F => ?_
        refine Av F fun A F => ?_
        refine Nl kk (condF F rfl (wp_exit ?_))
        try dsimp only [Exit.then, Exit.jump, Exit.noGoto]
        refine exit_here (hK36 _ _ (Sx.plain ?_))
        refine Av F fun A F => ?_
        refine Zv F (Bn (iI 2) F rfl rfl rfl (i_addS (by decide))) fun A F => ?_
        refine Av F fun A F => ?_
        refine Sx.nil ?_
        try dsimp only [Exit.then, Exit.noGoto]
        rw [rounds_succ]
        refine Sx.seq fun K56 hK56 => Sp fun _ kk => ?_
        iterate 2 (refine Av F ?_; intro A F)
        refine Nl kk (condT F rfl (wp_skip (hK56 _ _ (Sx.seq fun K58 hK58 => wp_block (Sp fun _ kk => Av F fun A F => ?_)))))
        refine Nl kk (Sp fun _ kk => Av F fun A F => ?_)
        refine Nl kk (wp_block (wp_loop_rounds 5 ?_))
        try dsimp only [Exit.then, Exit.noGoto]
        rw [rounds_succ]
        refine Sx.seq fun K61 hK61 => Sp fun _ kk => ?_
        iterate 2 (refine Av F ?_; intro A F)
        refine Zv F (Bn (iI 2) F rfl rfl rfl (i_addS (by decide))) fun A F => ?_
        refine Av F fun A F => ?_
        refine Nl kk (condT F rfl (wp_skip (hK61 _ _ (Sx.seq fun K63 hK63 => wp_block (Sx.seq fun K64 hK64 => ?_)))))
        have F := F.tq [(4, pT g3 0), (5, pT g4 0), (6, pT g5 0), (7, pT g6 0), (8, iI 2), (18, bT), (9, iU 0), (10, iI 0), (24, bT)] rfl
        refine Dn F [some (iI 2), some (iI 0), some (iI 2), some (pT g6 2), some (uN (n11 % 4294967296#64)), some (iI 2), some (pT g4 2), some (uN (Wd.hi da % 4294967296#64)), some (iI 0), some (pT g5 0), some (uN (Wd.lo db % 4294967296#64)), some (uN ((Wd.hi da % 4294967296#64) * (Wd.lo db % 4294967296#64))), some (uN ((n11 % 4294967296#64) + ((Wd.hi da % 4294967296#64) * (Wd.lo db % 4294967296#64)))), some (iU 0), some (uN (((n11 % 4294967296#64) + ((Wd.hi da % 4294967296#64) * (Wd.lo db % 4294967296#64))) + 0#64)), some (uN (((n11 % 4294967296#64) + ((Wd.hi da % 4294967296#64) * (Wd.lo db % 4294967296#64))) + 0#64))] (fun L A w => Sx.Own w0 w [(true, g6, [uN (n00 % 4294967296#64), uN (n10 % 4294967296#64), uN (n11 % 4294967296#64), uN (n12 % 4294967296#64)]), (true, g5, (L17 db)), (true, g4, (L17 da)), (true, g3, L1), (true, g2, [uH db, uL db]), (true, g1, [uH da, uL da])] []) H.drew ?_ ?_
        ·refine ⟨?_, ?_, ?_, ?_, ?_, ?_, ?_, ?_, ?_, ?_, ?_, ?_, ?_, ?_, ?_, ?_, trivial⟩
         ·exact Sa
         ·exact Sa
         ·exact SV (fun _ _ _ F _ => Bn (iI 2) F rfl rfl rfl (i_addS (by decide)))
         ·exact SV (fun _ _ _ F _ => d_iaddr (v := pT g6 2) F rfl rfl rfl (by kernel_rfl))
         ·exact SV (fun _ _ _ F H => Ld 0 one_22 F H)
         ·exact Sa
         ·exact SV (fun _ _ _ F _ => d_iaddr (v := pT g4 2) F rfl rfl rfl (by kernel_rfl))
         ·exact SV (fun _ _ _ F H => Ld 2 one_22 F H)
         ·exact Sa
         ·exact SV (fun _ _ _ F _ => d_iaddr (v := pT g5 0) F rfl rfl rfl (by kernel_rfl))
         ·exact SV (fun _ _ _ F H => Ld 1 one_22 F H)
         ·exact SV (fun _ _ _ F _ => Bn (uN ((Wd.hi da % 4294967296#64) * (Wd.lo db % 4294967296#64))) F rfl rfl rfl (i_mul64 (Wd.hi da % 4294967296#64) (Wd.lo db % 4294967296#64)))
         ·exact SV (fun _ _ _ F _ => Bn (uN ((n11 % 4294967296#64) + ((Wd.hi da % 4294967296#64) * (Wd.lo db % 4294967296#64)))) F rfl rfl rfl (i_add64 (n11 % 4294967296#64) ((Wd.hi da % 4294967296#64) * (Wd.lo db % 4294967296#64))))
         ·exact Sa
         ·exact SV (fun _ _ _ F _ => Bn (uN (((n11 % 4294967296#64) + ((Wd.hi da % 4294967296#64) * (Wd.lo db % 4294967296#64))) + 0#64)) F rfl rfl rfl (i_add64 ((n11 % 4294967296#64) + ((Wd.hi da % 4294967296#64) * (Wd.lo db % 4294967296#64))) 0#64))
         ·exact Sa
        ·intro L A w hL F H
         have F := F.tq [(4, pT g3 0), (5, pT g4 0), (6, pT g5 0), (7, pT g6 0), (8, iI 2), (18, bT), (9, iU 0), (10, iI 0), (24, bT), (11, uN (((n11 % 4294967296#64) + ((Wd.hi da % 4294967296#64) * (Wd.lo db % 4294967296#64))) + 0#64))] rfl
         obtain ⟨n20, hn20⟩ : ∃ q, (((n11 % 4294967296#64) + ((Wd.hi da % 4294967296#64) * (Wd.lo db % 4294967296#64))) + 0#64) = q := ⟨_, rfl⟩
         rw [hn20] at F
         refine hK64 _ _ (Sp fun _ kk => ?_)
         iterate 2 (refine Av F ?_; intro A F)
         refine Zv F (Bn (iI 2) F rfl rfl rfl (i_addS (by decide))) fun A F => ?_
         refine Av F fun A F => ?_
         refine Zv F (Bn (uN (n20 % 4294967296#64)) F rfl rfl rfl (i_rem64 n20 4294967296#64 (by decide))) fun A F => ?_
         refine Zv F (d_iaddr (v := pT g6 2) F rfl rfl rfl (by kernel_rfl)) fun A F => ?_
         refine Zs 0 [uN (n00 % 4294967296#64), uN (n10 % 4294967296#64), uN (n20 % 4294967296#64), uN (n12 % 4294967296#64)] sz_22 F H fun A w F H => ?_
         refine Nl kk (Sx.plain ?_)
         refine Av F fun A F => ?_
         refine Zv F (Bn (uN (n20 / 4294967296#64)) F rfl rfl rfl (i_quo64 n20 4294967296#64 (by decide))) fun A F => ?_
         refine Av F fun A F => ?_
         refine Sx.nil (hK63 _ _ (Sx.plain ?_))
         refine Av F fun A F => ?_
         refine Zv F (Bn (iI 1) F rfl rfl rfl (i_addS (by decide))) fun A F => ?_
         refine Av F fun A F => ?_
         refine Sx.nil ?_
         try dsimp only [Exit.then, Exit.noGoto]
         rw [rounds_succ]
         refine Sx.seq fun K66 hK66 => Sp fun _ kk => ?_
         iterate 2 (refine Av F ?_; intro A F)
         refine Zv F (Bn (iI 3) F rfl rfl rfl (i_addS (by decide))) fun A F => ?_
         refine Av F fun A F => ?_
         refine Nl kk (condT F rfl (wp_skip (hK66 _ _ (Sx.seq fun K68 hK68 => wp_block (Sx.seq fun K69 hK69 => ?_)))))
         have F := F.tq [(4, pT g3 0), (5, pT g4 0), (6, pT g5 0), (7, pT g6 0), (8, iI 2), (18, bT), (9, uN (n20 / 4294967296#64)), (10, iI 1), (24, bT)] rfl
         refine Dn F [some (iI 2), some (iI 1), some (iI 3), some (pT g6 3), some (uN (n12 % 4294967296#64)), some (iI 2), some (pT g4 2), some (uN (Wd.hi da % 4294967296#64)), some (iI 1), some (pT g5 1), some (uN (Wd.lo db / 4294967296#64)), some (uN ((Wd.hi da % 4294967296#64) * (Wd.lo db / 4294967296#64))), some (uN ((n12 % 4294967296#64) + ((Wd.hi da % 4294967296#64) * (Wd.lo db / 4294967296#64)))), some (uN (n20 / 4294967296#64)), some (uN (((n12 % 4294967296#64) + ((Wd.hi da % 4294967296#64) * (Wd.lo db / 4294967296#64))) + (n20 / 4294967296#64))), some (uN (((n12 % 4294967296#64) + ((Wd.hi da % 4294967296#64) * (Wd.lo db / 4294967296#64))) + (n20 / 4294967296#64)))] (fun L A w => Sx.Own w0 w [(true, g6, [uN (n00 % 4294967296#64), uN (n10 % 4294967296#64), uN (n20 % 4294967296#64), uN (n12 % 4294967296#64)]), (true, g5, (L17 db)), (true, g4, (L17 da)), (true, g3, L1), (true, g2, [uH db, uL db]), (true, g1, [uH da, uL da])] []) H.drew ?_ ?_
         ·refine ⟨?_, ?_, ?_, ?_, ?_, ?_, ?_, ?_, ?_, ?_, ?_, ?_, ?_, ?_, ?_, ?_, trivial⟩
          ·exact Sa
          ·exact Sa
          ·exact SV (fun _ _ _ F _ => Bn (iI 3) F rfl rfl rfl (i_addS (by decide)))
          ·exact SV (fun _ _ _ F _ => d_iaddr (v := pT g6 3) F rfl rfl rfl (by kernel_rfl))
          ·exact SV (fun _ _ _ F H => Ld 0 one_22 F H)
          ·exact Sa
          ·exact SV (fun _ _ _ F _ => d_iaddr (v := pT g4 2) F rfl rfl rfl (by kernel_rfl))
          ·exact SV (fun _ _ _ F H => Ld 2 one_22 F H)
          ·exact Sa
          ·exact SV (fun _ _ _ F _ => d_iaddr (v := pT g5 1) F rfl rfl rfl (by kernel_rfl))
          ·exact SV (fun _ _ _ F H => Ld 1 one_22 F H)
          ·exact SV (fun _ _ _ F _ => Bn (uN ((Wd.hi da % 4294967296#64) * (Wd.lo db / 4294967296#64))) F rfl rfl rfl (i_mul64 (Wd.hi da % 4294967296#64) (Wd.lo db / 4294967296#64)))
          ·exact SV (fun _ _ _ F _ => Bn (uN ((n12 % 4294967296#64) + ((Wd.hi da % 4294967296#64) * (Wd.lo db / 4294967296#64)))) F rfl rfl rfl (i_add64 (n12 % 4294967296#64) ((Wd.hi da % 4294967296#64) * (Wd.lo db / 4294967296#64))))
          ·exact Sa
          ·exact SV (fun _ _ _ F _ => Bn (uN (((n12 % 4294967296#64) + ((Wd.hi da % 4294967296#64) * (Wd.lo db / 4294967296#64))) + (n20 / 4294967296#64))) F rfl rfl rfl (i_add64 ((n12 % 4294967296#64) + ((Wd.hi da % 4294967296#64) * (Wd.lo db / 4294967296#64))) (n20 / 4294967296#64)))
          ·exact Sa
         ·intro L A w hL F H
          have F := F.tq [(4, pT g3 0), (5, pT g4 0), (6, pT g5 0), (7, pT g6 0), (8, iI 2), (18, bT), (9, uN (n20 / 4294967296#64)), (10, iI 1), (24, bT), (11, uN (((n12 % 4294967296#64) + ((Wd.hi da % 4294967296#64) * (Wd.lo db / 4294967296#64))) + (n20 / 4294967296#64)))] rfl
          obtain ⟨n21, hn21⟩ : ∃ q, (((n12 % 4294967296#64) + ((Wd.hi da % 4294967296#64) * (Wd.lo db / 4294967296#64))) + (n20 / 4294967296#64)) = q := ⟨_, rfl⟩
          rw [hn21] at F
          refine hK69 _ _ (Sp fun _ kk => ?_)
          iterate 2 (refine Av F ?_; intro A F)
          refine Zv F (Bn (iI 3) F rfl rfl rfl (i_addS (by decide))) fun A F => ?_
          refine Av F fun A F => ?_
          refine Zv F (Bn (uN (n21 % 4294967296#64)) F rfl rfl rfl (i_rem64 n21 4294967296#64 (by decide))) fun A F => ?_
          refine Zv F (d_iaddr (v := pT g6 3) F rfl rfl rfl (by kernel_rfl)) fun A F => ?_
          refine Zs 0 [uN (n00 % 4294967296#64), uN (n10 % 4294967296#64), uN (n20 % 4294967296#64), uN (n21 % 4294967296#64)] sz_22 F H fun A w F H => ?_
          refine Nl kk (Sx.plain ?_)
          refine Av F fun A F => ?_
          refine Zv F (Bn (uN (n21 / 4294967296#64)) F rfl rfl rfl (i_quo64 n21 4294967296#64 (by decide))) fun A F => ?_
          refine Av F fun A F => ?_
          refine Sx.nil (hK68 _ _ (Sx.plain ?_))
          refine Av F fun A F => ?_
          refine Zv F (Bn (iI 2) F rfl rfl rfl (i_addS (by decide))) fun A F => ?_
          refine Av F fun A F => ?_
          refine Sx.nil ?_
          try dsimp only [Exit.then, Exit.noGoto]
          rw [rounds_succ]
          refine Sx.seq fun K71 hK71 => Sp fun _ kk => ?_
          iterate 2 (refine Av F ?_; intro A F)
          refine Zv F (Bn (iI 4) F rfl rfl rfl (i_addS (by decide))) fun A F => ?_
          refine Av F fun A F => ?_
          refine Nl kk (condF F rfl (wp_exit ?_))
          try dsimp only [Exit.then, Exit.jump, Exit.noGoto]
          refine exit_here (hK58 _ _ (Sx.plain ?_))
          refine Av F fun A F => ?_
          refine Zv F (Bn (iI 3) F rfl rfl rfl (i_addS (by decide))) fun A F => ?_
          refine Av F fun A F => ?_
          refine Sx.nil ?_
          try dsimp only [Exit.then, Exit.noGoto]
          rw [rounds_succ]
          refine Sx.seq fun K73 hK73 => Sp fun _ kk => ?_
          iterate 2 (refine Av F ?_; intro A F)
          refine Nl kk (condT F rfl (wp_skip (hK73 _ _ (Sx.seq fun K75 hK75 => wp_block (Sp fun _ kk => Av F fun A F => ?_)))))
          refine Nl kk (Sp fun _ kk => Av F fun A F => ?_)
          refine Nl kk (wp_block (wp_loop_rounds 5 ?_))
          try dsimp only [Exit.then, Exit.noGoto]
          rw [rounds_succ]
          refine Sx.seq fun K78 hK78 => Sp fun _ kk => ?_
          iterate 2 (refine Av F ?_; intro A F)
          refine Zv F (Bn (iI 3) F rfl rfl rfl (i_addS (by decide))) fun A F => ?_
          refine Av F fun A F => ?_
          refine Nl kk (condT F rfl (wp_skip (hK78 _ _ (Sx.seq fun K80 hK80 => wp_block (Sx.seq fun K81 hK81 => ?_)))))
          have F := F.tq [(4, pT g3 0), (5, pT g4 0), (6, pT g5 0), (7, pT g6 0), (8, iI 3), (18, bT), (9, iU 0), (10, iI 0), (24, bT)] rfl
          refine Dn F [some (iI 3), some (iI 0), some (iI 3), some (pT g6 3), some (uN (n21 % 4294967296#64)), some (iI 3), some (pT g4 3), some (uN (Wd.hi da / 4294967296#64)), some (iI 0), some (pT g5 0), some (uN (Wd.lo db % 4294967296#64)), some (uN ((Wd.hi da / 4294967296#64) * (Wd.lo db % 4294967296#64))), some (uN ((n21 % 4294967296#64) + ((Wd.hi da / 4294967296#64) * (Wd.lo db % 4294967296#64)))), some (iU 0), some (uN (((n21 % 4294967296#64) + ((Wd.hi da / 4294967296#64) * (Wd.lo db % 4294967296#64))) + 0#64)), some (uN (((n21 % 4294967296#64) + ((Wd.hi da / 4294967296#64) * (Wd.lo db % 4294967296#64))) + 0#64))] (fun L A w => Sx.Own w0 w [(true, g6, [uN (n00 % 4294967296#64), uN (n10 % 4294967296#64), uN (n20 % 4294967296#64), uN (n21 % 4294967296#64)]), (true, g5, (L17 db)), (true, g4, (L17 da)), (true, g3, L1), (true, g2, [uH db, uL db]), (true, g1, [uH da, uL da])] []) H.drew ?_ ?_
          ·refine ⟨?_, ?_, ?_, ?_, ?_, ?_, ?_, ?_, ?_, ?_, ?_, ?_, ?_, ?_, ?_, ?_, trivial⟩
           ·exact Sa
           ·exact Sa
           ·exact SV (fun _ _ _ F _ => Bn (iI 3) F rfl rfl rfl (i_addS (by decide)))
           ·exact SV (fun _ _ _ F _ => d_iaddr (v := pT g6 3) F rfl rfl rfl (by kernel_rfl))
           ·exact SV (fun _ _ _ F H => Ld 0 one_22 F H)
           ·exact Sa
           ·exact SV (fun _ _ _ F _ => d_iaddr (v := pT g4 3) F rfl rfl rfl (by kernel_rfl))
           ·exact SV (fun _ _ _ F H => Ld 2 one_22 F H)
           ·exact Sa
           ·exact SV (fun _ _ _ F _ => d_iaddr (v := pT g5 0) F rfl rfl rfl (by kernel_rfl))
           ·exact SV (fun _ _ _ F H => Ld 1 one_22 F H)
           ·exact SV (fun _ _ _ F _ => Bn (uN ((Wd.hi da / 4294967296#64) * (Wd.lo db % 4294967296#64))) F rfl rfl rfl (i_mul64 (Wd.hi da / 4294967296#64) (Wd.lo db % 4294967296#64)))
           ·exact SV (fun _ _ _ F _ => Bn (uN ((n21 % 4294967296#64) + ((Wd.hi da / 4294967296#64) * (Wd.lo db % 4294967296#64)))) F rfl rfl rfl (i_add64 (n21 % 4294967296#64) ((Wd.hi da / 4294967296#64) * (Wd.lo db % 4294967296#64))))
           ·exact Sa
           ·exact SV (fun _ _ _ F _ => Bn (uN (((n21 % 4294967296#64) + ((Wd.hi da / 4294967296#64) * (Wd.lo db % 4294967296#64))) + 0#64)) F rfl rfl rfl (i_add64 ((n21 % 4294967296#64) + ((Wd.hi da / 4294967296#64) * (Wd.lo db % 4294967296#64))) 0#64))
           ·exact Sa
          ·intro L A w hL F H
           have F := F.tq [(4, pT g3 0), (5, pT g4 0), (6, pT g5 0), (7, pT g6 0), (8, iI 3), (18, bT), (9, iU 0), (10, iI 0), (24, bT), (11, uN (((n21 % 4294967296#64) + ((Wd.hi da / 4294967296#64) * (Wd.lo db % 4294967296#64))) + 0#64))] rfl
           obtain ⟨n30, hn30⟩ : ∃ q, (((n21 % 4294967296#64) + ((Wd.hi da / 4294967296#64) * (Wd.lo db % 4294967296#64))) + 0#64) = q := ⟨_, rfl⟩
           rw [hn30] at F
           refine hK81 _ _ (Sp fun _ kk => ?_)
           iterate 2 (refine Av F ?_; intro A F)
           refine Zv F (Bn (iI 3) F rfl rfl rfl (i_addS (by decide))) fun A F => ?_
           refine Av F fun A F => ?_
           refine Zv F (Bn (uN (n30 % 4294967296#64)) F rfl rfl rfl (i_rem64 n30 4294967296#64 (by decide))) fun A F => ?_
           refine Zv F (d_iaddr (v := pT g6 3) F rfl rfl rfl (by kernel_rfl)) fun A F => ?_
           refine Zs 0 [uN (n00 % 4294967296#64), uN (n10 % 4294967296#64), uN (n20 % 4294967296#64), uN (n30 % 4294967296#64)] sz_22 F H fun A w F H => ?_
           refine Nl kk (Sx.plain ?_)
           refine Av F fun A F => ?_
           refine Zv F (Bn (uN (n30 / 4294967296#64)) F rfl rfl rfl (i_quo64 n30 4294967296#64 (by decide))) fun A F => ?_
           refine Av F fun A F => ?_
           refine Sx.nil (hK80 _ _ (Sx.plain ?_))
           refine Av F fun A F => ?_
           refine Zv F (Bn (iI 1) F rfl rfl rfl (i_addS (by decide))) fun A F => ?_
           refine Av F fun A F => ?_
           refine Sx.nil ?_
           try dsimp only [Exit.then, Exit.noGoto]
           rw [rounds_succ]
           refine Sx.seq fun K83 hK83 => Sp fun _ kk => ?_
           iterate 2 (refine Av F ?_; intro A F)
           refine Zv F (Bn (iI 4) F rfl rfl rfl (i_addS (by decide))) fun A F => ?_
           refine Av F fun A F => ?_
           refine Nl kk (condF F rfl (wp_exit ?_))
           try dsimp only [Exit.then, Exit.jump, Exit.noGoto]
           refine exit_here (hK75 _ _ (Sx.plain ?_))
           refine Av F fun A F => ?_
           refine Zv F (Bn (iI 4) F rfl rfl rfl (i_addS (by decide))) fun A F => ?_
           refine Av F fun A F => ?_
           refine Sx.nil ?_
           try dsimp only [Exit.then, Exit.noGoto]
           rw [rounds_succ]
           refine Sx.seq fun K85 hK85 => Sp fun _ kk => ?_
           iterate 2 (refine Av F ?_; intro A F)
           refine Nl kk (condF F rfl (wp_exit ?_))
           try dsimp only [Exit.then, Exit.jump, Exit.noGoto]
           refine exit_here (hK5 _ _ (Sp fun _ kk => Av F fun A F => ?_))
           refine Zw F (Dc if_64 F H (rwhole_c (n00 % 4294967296#64) (n10 % 4294967296#64) (n20 % 4294967296#64) (n30 % 4294967296#64) _)) fun A w F H => ?_
           refine Zs 3 [uH (Wd.mk ((n20 % 4294967296#64) + 4294967296#64 * (n30 % 4294967296#64)) ((n00 % 4294967296#64) + 4294967296#64 * (n10 % 4294967296#64))), uL (Wd.mk ((n20 % 4294967296#64) + 4294967296#64 * (n30 % 4294967296#64)) ((n00 % 4294967296#64) + 4294967296#64 * (n10 % 4294967296#64)))] sz_41 F H fun A w F H => ?_
           refine Nl kk (wp_ret ?_)
           try dsimp only [Exit.then, Exit.inBlock, Exit.jump, Exit.noGoto]
           refine ret1 F Tryz.results30 (res_row (i := 3) (xs := [uH (Wd.mk ((n20 % 4294967296#64) + 4294967296#64 * (n30 % 4294967296#64)) ((n00 % 4294967296#64) + 4294967296#64 * (n10 % 4294967296#64))), uL (Wd.mk ((n20 % 4294967296#64) + 4294967296#64 * (n30 % 4294967296#64)) ((n00 % 4294967296#64) + 4294967296#64 * (n10 % 4294967296#64)))]) rw_41 F H rfl rfl rfl rfl) ⟨?_, H.below⟩
           rw [R1.mul_dig da db n00 n01 n02 n03 n10 n11 n12 n20 n21 n30 hn00 hn01 hn02 hn03 hn10 hn11 hn12 hn20 hn21 hn30]
abbrev L18 (x0 : BitVec 128) : List Value := [uN (4294967295#64 - (Wd.lo x0 % 4294967296#64)), uN (Wd.lo x0 / 4294967296#64), uN (Wd.hi x0 % 4294967296#64), uN (Wd.hi x0 / 4294967296#64)]
abbrev L19 (x0 : BitVec 128) : List Value := [uN (4294967295#64 - (Wd.lo x0 % 4294967296#64)), uN (4294967295#64 - (Wd.lo x0 / 4294967296#64)), uN (Wd.hi x0 % 4294967296#64), uN (Wd.hi x0 / 4294967296#64)]
abbrev L20 (x0 : BitVec 128) : List Value := [uN (4294967295#64 - (Wd.lo x0 % 4294967296#64)), uN (4294967295#64 - (Wd.lo x0 / 4294967296#64)), uN (4294967295#64 - (Wd.hi x0 % 4294967296#64)), uN (Wd.hi x0 / 4294967296#64)]
abbrev L21 (x0 : BitVec 128) : List Value := [uN (4294967295#64 - (Wd.lo x0 % 4294967296#64)), uN (4294967295#64 - (Wd.lo x0 / 4294967296#64)), uN (4294967295#64 - (Wd.hi x0 % 4294967296#64)), uN (4294967295#64 - (Wd.hi x0 / 4294967296#64))]
abbrev L22 (x0 x1 : BitVec 128) : Value := .agg #[uH (x0 + (Wd.mk ((4294967295#64 - (Wd.hi x1 % 4294967296#64)) + 4294967296#64 * (4294967295#64 - (Wd.hi x1 / 4294967296#64))) ((4294967295#64 - (Wd.lo x1 % 4294967296#64)) + 4294967296#64 * (4294967295#64 - (Wd.lo x1 / 4294967296#64))))), uL (x0 + (Wd.mk ((4294967295#64 - (Wd.hi x1 % 4294967296#64)) + 4294967296#64 * (4294967295#64 - (Wd.hi x1 / 4294967296#64))) ((4294967295#64 - (Wd.lo x1 % 4294967296#64)) + 4294967296#64 * (4294967295#64 - (Wd.lo x1 / 4294967296#64)))))]
abbrev L23 (x0 x1 : BitVec 128) : Value := .tuple #[.agg #[uH (x0 + (Wd.mk ((4294967295#64 - (Wd.hi x1 % 4294967296#64)) + 4294967296#64 * (4294967295#64 - (Wd.hi x1 / 4294967296#64))) ((4294967295#64 - (Wd.lo x1 % 4294967296#64)) + 4294967296#64 * (4294967295#64 - (Wd.lo x1 / 4294967296#64))))), uL (x0 + (Wd.mk ((4294967295#64 - (Wd.hi x1 % 4294967296#64)) + 4294967296#64 * (4294967295#64 - (Wd.hi x1 / 4294967296#64))) ((4294967295#64 - (Wd.lo x1 % 4294967296#64)) + 4294967296#64 * (4294967295#64 - (Wd.lo x1 / 4294967296#64)))))], .bool (Wd.over x0 (Wd.mk ((4294967295#64 - (Wd.hi x1 % 4294967296#64)) + 4294967296#64 * (4294967295#64 - (Wd.hi x1 / 4294967296#64))) ((4294967295#64 - (Wd.lo x1 % 4294967296#64)) + 4294967296#64 * (4294967295#64 - (Wd.lo x1 / 4294967296#64)))))]
abbrev L24 (x0 x1 : BitVec 128) : List Value := [uH (x0 + (Wd.mk ((4294967295#64 - (Wd.hi x1 % 4294967296#64)) + 4294967296#64 * (4294967295#64 - (Wd.hi x1 / 4294967296#64))) ((4294967295#64 - (Wd.lo x1 % 4294967296#64)) + 4294967296#64 * (4294967295#64 - (Wd.lo x1 / 4294967296#64))))), uL (x0 + (Wd.mk ((4294967295#64 - (Wd.hi x1 % 4294967296#64)) + 4294967296#64 * (4294967295#64 - (Wd.hi x1 / 4294967296#64))) ((4294967295#64 - (Wd.lo x1 % 4294967296#64)) + 4294967296#64 * (4294967295#64 - (Wd.lo x1 / 4294967296#64)))))]
abbrev L25 : List Sx.Bx := [(false, 0, [uN (Wd.hi 0#128), uN (Wd.lo 0#128)])]
abbrev L26 : Value := .agg #[uN (Wd.hi 1#128), uN (Wd.lo 1#128)]
abbrev L27 (x0 x1 : BitVec 128) : List Value := [iU ((Wd.hi ((x0 + (Wd.mk ((4294967295#64 - (Wd.hi x1 % 4294967296#64)) + 4294967296#64 * (4294967295#64 - (Wd.hi x1 / 4294967296#64))) ((4294967295#64 - (Wd.lo x1 % 4294967296#64)) + 4294967296#64 * (4294967295#64 - (Wd.lo x1 / 4294967296#64))))) + 1#128)).toNat), iU ((Wd.lo ((x0 + (Wd.mk ((4294967295#64 - (Wd.hi x1 % 4294967296#64)) + 4294967296#64 * (4294967295#64 - (Wd.hi x1 / 4294967296#64))) ((4294967295#64 - (Wd.lo x1 % 4294967296#64)) + 4294967296#64 * (4294967295#64 - (Wd.lo x1 / 4294967296#64))))) + 1#128)).toNat)]
abbrev L28 (x0 x1 x2 x3 : Nat) : List (Nat × Value) := [(2, pT x0 0), (3, pT x1 0), (4, pT x2 0), (10, pT x3 0)]
abbrev L29 (x0 x1 : BitVec 128) : Value := .agg #[iU ((Wd.hi ((x0 + (Wd.mk ((4294967295#64 - (Wd.hi x1 % 4294967296#64)) + 4294967296#64 * (4294967295#64 - (Wd.hi x1 / 4294967296#64))) ((4294967295#64 - (Wd.lo x1 % 4294967296#64)) + 4294967296#64 * (4294967295#64 - (Wd.lo x1 / 4294967296#64))))) + 1#128)).toNat), iU ((Wd.lo ((x0 + (Wd.mk ((4294967295#64 - (Wd.hi x1 % 4294967296#64)) + 4294967296#64 * (4294967295#64 - (Wd.hi x1 / 4294967296#64))) ((4294967295#64 - (Wd.lo x1 % 4294967296#64)) + 4294967296#64 * (4294967295#64 - (Wd.lo x1 / 4294967296#64))))) + 1#128)).toNat)]
set_option maxHeartbeats 4000000 in
open Sx in
theorem rsub_c (da db : BitVec 128) (w0 : World) : Calls Tryz.prog 65 #[.agg #[uH da, uL da], .agg #[uH db, uL db]] w0 fun e w' => e = .returned (.tuple #[.agg #[uH (da - db), uL (da - db)], .bool (Wd.less da db)]) ∧ Below w0.heap.size w0 w' := by
 refine En Tryz.func65 Tryz.ntmps65 fun A F => ?_
 have H := Sx.Own.start w0
 refine Sp fun _ kk => Zb F (d_box F H rfl rfl [uH da, uL da] rfl) fun g1 A w F H => ?_
 refine Zb F (d_box F H rfl rfl [uH db, uL db] rfl) fun g2 A w F H => ?_
 refine Zb F (d_alloc H rfl L1 zero_41) fun g3 A w F H => ?_
 refine Av F fun A F => ?_
 refine Nl kk (Sp fun _ kk => Av F fun A F => ?_)
 refine Zw F (Dc if_63 F H (rdigits_c db _)) fun A w F H => ?_
 refine Zb F (d_alloc H rfl [iU 0, iU 0, iU 0, iU 0] zero_23) fun g4 A w F H => ?_
 refine Zt F (d_store (i := 0) (xs := (L17 db)) (us := (L17 db)) sz_23 F H rfl rfl rfl rfl rfl rfl rfl (Nat.le_of_ble_eq_true rfl) rfl) fun A w F (H : Sx.Own w0 _ [(true, g4, (L17 db)), (true, g3, L1), (true, g2, [uH db, uL db]), (true, g1, [uH da, uL da])] []) => ?_
 refine Nl kk (Sx.seq fun K3 hK3 => Sp fun _ kk => Av F fun A F => ?_)
 refine Nl kk (wp_block (wp_loop_rounds 5 ?_))
 try dsimp only [Exit.then, Exit.noGoto]
 rw [rounds_succ]
 refine Sx.seq fun K5 hK5 => Sp fun _ kk => ?_
 iterate 2 (refine Av F ?_; intro A F)
 refine Nl kk (condT F rfl (wp_skip (hK5 _ _ (Sx.seq fun K7 hK7 => wp_block (Sx.plain ?_)))))
 iterate 2 (refine Av F ?_; intro A F)
 refine Zv F (d_iaddr (v := pT g4 0) F rfl rfl rfl (by kernel_rfl)) fun A F => ?_
 refine Av F fun A F => ?_
 refine Zv F (Bn (uN (4294967295#64 - (Wd.lo db % 4294967296#64))) F rfl rfl rfl (i_sub64 4294967295#64 (Wd.lo db % 4294967296#64))) fun A F => ?_
 refine Zv F (d_iaddr (v := pT g4 0) F rfl rfl rfl (by kernel_rfl)) fun A F => ?_
 refine Zt F (d_store (i := 0) (xs := [uN (4294967295#64 - (Wd.lo db % 4294967296#64))]) (us := (L18 db)) sz_22 F H rfl rfl rfl rfl rfl rfl rfl (Nat.le_of_ble_eq_true rfl) rfl) fun A w F (H : Sx.Own w0 _ [(true, g4, (L18 db)), (true, g3, L1), (true, g2, [uH db, uL db]), (true, g1, [uH da, uL da])] []) => ?_
 refine Sx.nil (hK7 _ _ (Sx.plain ?_))
 refine Av F fun A F => ?_
 refine Zv F (Bn (iI 1) F rfl rfl rfl (i_addS (by decide))) fun A F => ?_
 refine Av F fun A F => ?_
 refine Sx.nil ?_
 try dsimp only [Exit.then, Exit.noGoto]
 rw [rounds_succ]
 refine Sx.seq fun K8 hK8 => Sp fun _ kk => ?_
 iterate 2 (refine Av F ?_; intro A F)
 refine Nl kk (condT F rfl (wp_skip (hK8 _ _ (Sx.seq fun K10 hK10 => wp_block (Sx.plain ?_)))))
 iterate 2 (refine Av F ?_; intro A F)
 refine Zv F (d_iaddr (v := pT g4 1) F rfl rfl rfl (by kernel_rfl)) fun A F => ?_
 refine Av F fun A F => ?_
 refine Zv F (Bn (uN (4294967295#64 - (Wd.lo db / 4294967296#64))) F rfl rfl rfl (i_sub64 4294967295#64 (Wd.lo db / 4294967296#64))) fun A F => ?_
 refine Zv F (d_iaddr (v := pT g4 1) F rfl rfl rfl (by kernel_rfl)) fun A F => ?_
 refine Zt F (d_store (i := 0) (xs := [uN (4294967295#64 - (Wd.lo db / 4294967296#64))]) (us := (L19 db)) sz_22 F H rfl rfl rfl rfl rfl rfl rfl (Nat.le_of_ble_eq_true rfl) rfl) fun A w F (H : Sx.Own w0 _ [(true, g4, (L19 db)), (true, g3, L1), (true, g2, [uH db, uL db]), (true, g1, [uH da, uL da])] []) => ?_
 refine Sx.nil (hK10 _ _ (Sx.plain ?_))
 refine Av F fun A F => ?_
 refine Zv F (Bn (iI 2) F rfl rfl rfl (i_addS (by decide))) fun A F => ?_
 refine Av F fun A F => ?_
 refine Sx.nil ?_
 try dsimp only [Exit.then, Exit.noGoto]
 rw [rounds_succ]
 refine Sx.seq fun K11 hK11 => Sp fun _ kk => ?_
 iterate 2 (refine Av F ?_; intro A F)
 refine Nl kk (condT F rfl (wp_skip (hK11 _ _ (Sx.seq fun K13 hK13 => wp_block (Sx.plain ?_)))))
 iterate 2 (refine Av F ?_; intro A F)
 refine Zv F (d_iaddr (v := pT g4 2) F rfl rfl rfl (by kernel_rfl)) fun A F => ?_
 refine Av F fun A F => ?_
 refine Zv F (Bn (uN (4294967295#64 - (Wd.hi db % 4294967296#64))) F rfl rfl rfl (i_sub64 4294967295#64 (Wd.hi db % 4294967296#64))) fun A F => ?_
 refine Zv F (d_iaddr (v := pT g4 2) F rfl rfl rfl (by kernel_rfl)) fun A F => ?_
 refine Zt F (d_store (i := 0) (xs := [uN (4294967295#64 - (Wd.hi db % 4294967296#64))]) (us := (L20 db)) sz_22 F H rfl rfl rfl rfl rfl rfl rfl (Nat.le_of_ble_eq_true rfl) rfl) fun A w F (H : Sx.Own w0 _ [(true, g4, (L20 db)), (true, g3, L1), (true, g2, [uH db, uL db]), (true, g1, [uH da, uL da])] []) => ?_
 refine Sx.nil (hK13 _ _ (Sx.plain ?_))
 refine Av F fun A F => ?_
 refine Zv F (Bn (iI 3) F rfl rfl rfl (i_addS (by decide))) fun A F => ?_
 refine Av F fun A F => ?_
 refine Sx.nil ?_
 try dsimp only [Exit.then, Exit.noGoto]
 rw [rounds_succ]
 refine Sx.seq fun K14 hK14 => Sp fun _ kk => ?_
 iterate 2 (refine Av F ?_; intro A F)
 refine Nl kk (condT F rfl (wp_skip (hK14 _ _ (Sx.seq fun K16 hK16 => wp_block (Sx.plain ?_)))))
 iterate 2 (refine Av F ?_; intro A F)
 refine Zv F (d_iaddr (v := pT g4 3) F rfl rfl rfl (by kernel_rfl)) fun A F => ?_
 refine Av F fun A F => ?_
 refine Zv F (Bn (uN (4294967295#64 - (Wd.hi db / 4294967296#64))) F rfl rfl rfl (i_sub64 4294967295#64 (Wd.hi db / 4294967296#64))) fun A F => ?_
 refine Zv F (d_iaddr (v := pT g4 3) F rfl rfl rfl (by kernel_rfl)) fun A F => ?_
 refine Zt F (d_store (i := 0) (xs := [uN (4294967295#64 - (Wd.hi db / 4294967296#64))]) (us := (L21 db)) sz_22 F H rfl rfl rfl rfl rfl rfl rfl (Nat.le_of_ble_eq_true rfl) rfl) fun A w F (H : Sx.Own w0 _ [(true, g4, (L21 db)), (true, g3, L1), (true, g2, [uH db, uL db]), (true, g1, [uH da, uL da])] []) => ?_
 refine Sx.nil (hK16 _ _ (Sx.plain ?_))
 refine Av F fun A F => ?_
 refine Zv F (Bn (iI 4) F rfl rfl rfl (i_addS (by decide))) fun A F => ?_
 refine Av F fun A F => ?_
 refine Sx.nil ?_
 try dsimp only [Exit.then, Exit.noGoto]
 rw [rounds_succ]
 refine Sx.seq fun K17 hK17 => Sp fun _ kk => ?_
 iterate 2 (refine Av F ?_; intro A F)
 refine Nl kk (condF F rfl (wp_exit ?_))
 try dsimp only [Exit.then, Exit.jump, Exit.noGoto]
 refine exit_here (hK3 _ _ (Sx.seq fun K19 hK19 => ?_))
 have F := F.tq [(2, pT g1 0), (3, pT g2 0), (4, pT g3 0), (5, bF), (6, pT g4 0)] rfl
 refine Dn F [some (.agg #[uH da, uL da]), some (.agg #[uN (4294967295#64 - (Wd.lo db % 4294967296#64)), uN (4294967295#64 - (Wd.lo db / 4294967296#64)), uN (4294967295#64 - (Wd.hi db % 4294967296#64)), uN (4294967295#64 - (Wd.hi db / 4294967296#64))]), some (.agg #[uH (Wd.mk ((4294967295#64 - (Wd.hi db % 4294967296#64)) + 4294967296#64 * (4294967295#64 - (Wd.hi db / 4294967296#64))) ((4294967295#64 - (Wd.lo db % 4294967296#64)) + 4294967296#64 * (4294967295#64 - (Wd.lo db / 4294967296#64)))), uL (Wd.mk ((4294967295#64 - (Wd.hi db % 4294967296#64)) + 4294967296#64 * (4294967295#64 - (Wd.hi db / 4294967296#64))) ((4294967295#64 - (Wd.lo db % 4294967296#64)) + 4294967296#64 * (4294967295#64 - (Wd.lo db / 4294967296#64))))]), some (L23 da db), some (L23 da db), some (L22 da db), some (.bool (Wd.over da (Wd.mk ((4294967295#64 - (Wd.hi db % 4294967296#64)) + 4294967296#64 * (4294967295#64 - (Wd.hi db / 4294967296#64))) ((4294967295#64 - (Wd.lo db % 4294967296#64)) + 4294967296#64 * (4294967295#64 - (Wd.lo db / 4294967296#64)))))), none, none, some (.bool (Wd.over da (Wd.mk ((4294967295#64 - (Wd.hi db % 4294967296#64)) + 4294967296#64 * (4294967295#64 - (Wd.hi db / 4294967296#64))) ((4294967295#64 - (Wd.lo db % 4294967296#64)) + 4294967296#64 * (4294967295#64 - (Wd.lo db / 4294967296#64))))))] (fun L A w => ∃ g5 : Nat, (L 7 = true → A.eval (.tmp 8) = pT g5 0) ∧ Sx.Own w0 w [(true, g4, (L21 db)), (true, g3, L1), (true, g2, [uH db, uL db]), (true, g1, [uH da, uL da]), (L 7, g5, (cond (L 8) (L24 da db) L1))] []) ⟨0, (fun h => by cases h), H.drew.pad L25 rfl [] rfl⟩ ?_ ?_
 ·refine ⟨?_, ?_, ?_, ?_, ?_, ?_, ?_, ?_, ?_, ?_, trivial⟩
  ·exact SV (fun _ _ _ F ⟨g5, p7, H⟩ => Lr 3 [uH da, uL da] rw_41 F H) (fun _ _ _ _ ⟨g5, p7, H⟩ => ⟨g5, Pk p7, H⟩)
  ·exact SV (fun _ _ _ F ⟨g5, p7, H⟩ => Lr 0 (L21 db) rw_23 F H) (fun _ _ _ _ ⟨g5, p7, H⟩ => ⟨g5, Pk p7, H⟩)
  ·intro L A w up hun hd F ⟨g5, p7, H⟩
   have f8 : L 8 = false := up 8 2 rfl hun
   rw [f8] at H
   refine step_on rfl (Dc if_64 F H (rwhole_c (4294967295#64 - (Wd.lo db % 4294967296#64)) (4294967295#64 - (Wd.lo db / 4294967296#64)) (4294967295#64 - (Wd.hi db % 4294967296#64)) (4294967295#64 - (Wd.hi db / 4294967296#64)) _)) ?_
   rintro xv w' ⟨hx, H⟩
   exact ⟨Cs hx, ⟨g5, Pk p7, (by show Sx.Own _ _ _ _; rw [show Inv.add L 2 8 = false from f8]; exact H)⟩⟩
  ·intro L A w up hun hd F ⟨g5, p7, H⟩
   have f8 : L 8 = false := up 8 3 rfl hun
   rw [f8] at H
   refine step_on rfl (Dc if_29 F H (radd_c da (Wd.mk ((4294967295#64 - (Wd.hi db % 4294967296#64)) + 4294967296#64 * (4294967295#64 - (Wd.hi db / 4294967296#64))) ((4294967295#64 - (Wd.lo db % 4294967296#64)) + 4294967296#64 * (4294967295#64 - (Wd.lo db / 4294967296#64)))) _)) ?_
   rintro xv w' ⟨hx, H⟩
   exact ⟨Cs hx, ⟨g5, Pk p7, (by show Sx.Own _ _ _ _; rw [show Inv.add L 3 8 = false from f8]; exact H)⟩⟩
  ·exact Sa (hS := (fun _ _ _ _ ⟨g5, p7, H⟩ => ⟨g5, Pk p7, H⟩))
  ·exact Sa (hS := (fun _ _ _ _ ⟨g5, p7, H⟩ => ⟨g5, Pk p7, H⟩))
  ·exact Sa (hS := (fun _ _ _ _ ⟨g5, p7, H⟩ => ⟨g5, Pk p7, H⟩))
  ·intro L A w up hun hd F ⟨g5, p7, H⟩
   have f7 : L 7 = false := hun
   have f8 : L 8 = false := up 8 7 rfl hun
   rw [f7, f8] at H
   refine step_on rfl (d_alloc_at H rfl 4 L1 zero_41) ?_
   rintro xv w' ⟨g', hx, H⟩
   exact ⟨Cn, ⟨g', (fun _ => (Sx.put_same F (by decide) _).trans hx), (by show Sx.Own _ _ _ _; rw [show Inv.add L 7 8 = false from f8]; exact H)⟩⟩
  ·intro L A w up hun hd F ⟨g5, p7, H⟩
   have t7 : L 7 = true := hd 7 rfl
   have f8 : L 8 = false := hun
   rw [t7, f8] at H
   have F := Fr.add F (p7 t7)
   refine step_on rfl (d_store (i := 4) (xs := (L24 da db)) (us := (L24 da db)) sz_41 F H rfl rfl rfl rfl rfl rfl rfl (Nat.le_of_ble_eq_true rfl) rfl) ?_
   intro xv w' H
   exact ⟨Cn, ⟨g5, p7, (by show Sx.Own _ _ _ _; rw [show Inv.add L 8 7 = true from t7]; exact H)⟩⟩
  ·intro L A w up hun hd F ⟨g5, p7, H⟩
   have t7 : L 7 = true := hd 7 rfl
   have t8 : L 8 = true := hd 8 rfl
   have G := H; rw [t7, t8] at G
   have F := Fr.add F (p7 t7)
   refine step_on rfl (d_move F (Or.inr rfl) rfl) ?_
   rintro xv w' ⟨hx, rfl⟩
   exact ⟨Cs hx, ⟨g5, Pk p7, H⟩⟩
 ·intro L A w hL F ⟨g5, p7, H⟩
  have t7 : L 7 = true := hL 7 rfl
  have t8 : L 8 = true := hL 8 rfl
  rw [t7, t8] at H
  have F := Fr.add F (p7 t7)
  have F := F.tq [(2, pT g1 0), (3, pT g2 0), (4, pT g3 0), (5, bF), (8, pT g5 0)] rfl
  refine hK19 _ _ (Sp fun _ kk => Av F fun A F => ?_)
  refine Zv F (d_build (qs := #[(0, iU 0), (1, iU 1)]) (v := L26) F rfl rfl (by kernel_rfl)) fun A F => ?_
  refine Zw F (Dc if_29 F H (radd_c (da + (Wd.mk ((4294967295#64 - (Wd.hi db % 4294967296#64)) + 4294967296#64 * (4294967295#64 - (Wd.hi db / 4294967296#64))) ((4294967295#64 - (Wd.lo db % 4294967296#64)) + 4294967296#64 * (4294967295#64 - (Wd.lo db / 4294967296#64))))) 1#128 _)) fun A w F H => ?_
  iterate 3 (refine Av F ?_; intro A F)
  refine Zb F (d_alloc H rfl L1 zero_41) fun g6 A w F H => ?_
  refine Zt F (d_store (i := 0) (xs := (L27 da db)) (us := (L27 da db)) sz_41 F H rfl rfl rfl rfl rfl rfl rfl (Nat.le_of_ble_eq_true rfl) rfl) fun A w F (H : Sx.Own w0 _ [(true, g6, (L27 da db)), (true, g4, (L21 db)), (true, g3, L1), (true, g2, [uH db, uL db]), (true, g1, [uH da, uL da]), (true, g5, (L24 da db))] []) => ?_
  refine Av F fun A F => ?_
  refine Nl kk ?_
  rcases Nat.lt_trichotomy (Wd.hi da).toNat (Wd.hi db).toNat with hl | hl | hl
  ·skip
   refine Sx.seq fun K21 hK21 => ?_
   have F := F.tq (L28 g1 g2 g3 g6) rfl
   refine Dn F [some (L29 da db), some (pT g1 0), some (uH da), some (pT g2 0), some (uH db), some (bT), some (bT), some (undef), some (undef), some (undef), some (undef), some (undef), some (undef), some (undef), some (undef), some (undef), some (undef), some (undef), some (undef), some (bT), none, some (bT)] (fun L A w => Sx.Own w0 w [(true, g6, (L27 da db)), (true, g4, (L21 db)), (true, g3, (cond (L 20) (L27 da db) L1)), (true, g2, [uH db, uL db]), (true, g1, [uH da, uL da]), (true, g5, (L24 da db))] []) H.drew ?_ ?_
   ·refine ⟨?_, ?_, ?_, ?_, ?_, ?_, ?_, ?_, ?_, ?_, ?_, ?_, ?_, ?_, ?_, ?_, ?_, ?_, ?_, ?_, ?_, ?_, trivial⟩
    ·exact SV (fun _ _ _ F H => Lr 0 (L27 da db) rw_41 F H)
    ·exact Sa
    ·exact SV (fun _ _ _ F H => Ld 4 one_22 F H)
    ·exact Sa
    ·exact SV (fun _ _ _ F H => Ld 3 one_22 F H)
    ·exact SV (fun _ _ _ F _ => Bn bT F rfl rfl rfl (i_lt (decide_eq_true (by omega))))
    ·exact Sa
    ·exact SO
    ·exact SO
    ·exact SO
    ·exact SO
    ·exact SO
    ·exact SO
    ·intro L A w up hun hd F H
     exact step_offU rfl (guard_undef (d := 49) F rfl rfl) ⟨(fun cv hc => Option.some.inj (Option.some.inj hc)), H⟩
    ·intro L A w up hun hd F H
     exact step_offU rfl (guard_undef (d := 49) F rfl rfl) ⟨(fun cv hc => Option.some.inj (Option.some.inj hc)), H⟩
    ·intro L A w up hun hd F H
     exact step_offU rfl (guard_undef (d := 49) F rfl rfl) ⟨(fun cv hc => Option.some.inj (Option.some.inj hc)), H⟩
    ·intro L A w up hun hd F H
     exact step_offU rfl (guard_undef (d := 49) F rfl rfl) ⟨(fun cv hc => Option.some.inj (Option.some.inj hc)), H⟩
    ·intro L A w up hun hd F H
     exact step_offU rfl (guard_undef (d := 49) F rfl rfl) ⟨(fun cv hc => Option.some.inj (Option.some.inj hc)), H⟩
    ·exact SO
    ·exact Sa
    ·intro L A w up hun hd F H
     have f20 : L 20 = false := hun
     rw [f20] at H
     refine step_on rfl (d_store (i := 2) (xs := (L27 da db)) (us := (L27 da db)) sz_41 F H rfl rfl rfl rfl rfl rfl rfl (Nat.le_of_ble_eq_true rfl) rfl) ?_
     intro xv w' H
     exact ⟨Cn, H⟩
    ·exact Sa
   ·intro L A w hL F H
    have t20 : L 20 = true := hL 20 rfl
    rw [t20] at H
    have F := F.tq [(4, pT g3 0), (5, bT)] rfl
    refine hK21 _ _ (wp_ret ?_)
    try dsimp only [Exit.then, Exit.inBlock, Exit.jump, Exit.noGoto]
    refine ret2 F Tryz.results65 (res_row (i := 2) (xs := [iU ((Wd.hi ((da + (Wd.mk ((4294967295#64 - (Wd.hi db % 4294967296#64)) + 4294967296#64 * (4294967295#64 - (Wd.hi db / 4294967296#64))) ((4294967295#64 - (Wd.lo db % 4294967296#64)) + 4294967296#64 * (4294967295#64 - (Wd.lo db / 4294967296#64))))) + 1#128)).toNat), iU ((Wd.lo ((da + (Wd.mk ((4294967295#64 - (Wd.hi db % 4294967296#64)) + 4294967296#64 * (4294967295#64 - (Wd.hi db / 4294967296#64))) ((4294967295#64 - (Wd.lo db % 4294967296#64)) + 4294967296#64 * (4294967295#64 - (Wd.lo db / 4294967296#64))))) + 1#128)).toNat)]) rw_41 F H rfl rfl rfl rfl) (res_tmp F rfl) ⟨?_, H.below⟩
    exact congrArg Ending.returned (by rw [R1.sub_dig da db _ (R1.compl db), R1.less_t hl])
  ·by_cases hm : (Wd.lo da).toNat < (Wd.lo db).toNat
   ·skip
    refine Sx.seq fun K22 hK22 => ?_
    have F := F.tq (L28 g1 g2 g3 g6) rfl
    refine Dn F [some (L29 da db), some (pT g1 0), some (uH da), some (pT g2 0), some (uH db), some (bF), some (bF), some (pT g1 0), some (uH da), some (pT g2 0), some (uH db), some (bT), some (bT), some (pT g1 1), some (uL da), some (pT g2 1), some (uL db), some (bT), some (bT), some (bT), none, some (bT)] (fun L A w => Sx.Own w0 w [(true, g6, (L27 da db)), (true, g4, (L21 db)), (true, g3, (cond (L 20) (L27 da db) L1)), (true, g2, [uH db, uL db]), (true, g1, [uH da, uL da]), (true, g5, (L24 da db))] []) H.drew ?_ ?_
    ·refine ⟨?_, ?_, ?_, ?_, ?_, ?_, ?_, ?_, ?_, ?_, ?_, ?_, ?_, ?_, ?_, ?_, ?_, ?_, ?_, ?_, ?_, ?_, trivial⟩
     ·exact SV (fun _ _ _ F H => Lr 0 (L27 da db) rw_41 F H)
     ·exact Sa
     ·exact SV (fun _ _ _ F H => Ld 4 one_22 F H)
     ·exact Sa
     ·exact SV (fun _ _ _ F H => Ld 3 one_22 F H)
     ·exact SV (fun _ _ _ F _ => Bn bF F rfl rfl rfl (i_lt (decide_eq_false (by omega))))
     ·exact Sa
     ·exact SVg (fun _ _ _ F _ => Fd F (fa_41_0.default.h _ _ _))
     ·exact SVg (fun _ _ _ F H => Ld 4 one_22 F H)
     ·exact SVg (fun _ _ _ F _ => Fd F (fa_41_0.default.h _ _ _))
     ·exact SVg (fun _ _ _ F H => Ld 3 one_22 F H)
     ·exact SVg (fun _ _ _ F _ => Bn bT F rfl rfl rfl (i_eq (beq_iff_eq.2 (by omega))))
     ·exact SVg (fun _ _ _ F _ => d_move F (Or.inl rfl) rfl)
     ·exact SVg (fun _ _ _ F _ => Fd F (fa_41_1.default.h _ _ _))
     ·exact SVg (fun _ _ _ F H => Ld 4 one_22 F H)
     ·exact SVg (fun _ _ _ F _ => Fd F (fa_41_1.default.h _ _ _))
     ·exact SVg (fun _ _ _ F H => Ld 3 one_22 F H)
     ·exact SVg (fun _ _ _ F _ => Bn bT F rfl rfl rfl (i_lt (decide_eq_true (by omega))))
     ·exact SVg (fun _ _ _ F _ => d_pickT (v := bT) F rfl rfl rfl)
     ·exact Sa
     ·intro L A w up hun hd F H
      have f20 : L 20 = false := hun
      rw [f20] at H
      refine step_on rfl (d_store (i := 2) (xs := (L27 da db)) (us := (L27 da db)) sz_41 F H rfl rfl rfl rfl rfl rfl rfl (Nat.le_of_ble_eq_true rfl) rfl) ?_
      intro xv w' H
      exact ⟨Cn, H⟩
     ·exact Sa
    ·intro L A w hL F H
     have t20 : L 20 = true := hL 20 rfl
     rw [t20] at H
     have F := F.tq [(4, pT g3 0), (5, bT)] rfl
     refine hK22 _ _ (wp_ret ?_)
     try dsimp only [Exit.then, Exit.inBlock, Exit.jump, Exit.noGoto]
     refine ret2 F Tryz.results65 (res_row (i := 2) (xs := [iU ((Wd.hi ((da + (Wd.mk ((4294967295#64 - (Wd.hi db % 4294967296#64)) + 4294967296#64 * (4294967295#64 - (Wd.hi db / 4294967296#64))) ((4294967295#64 - (Wd.lo db % 4294967296#64)) + 4294967296#64 * (4294967295#64 - (Wd.lo db / 4294967296#64))))) + 1#128)).toNat), iU ((Wd.lo ((da + (Wd.mk ((4294967295#64 - (Wd.hi db % 4294967296#64)) + 4294967296#64 * (4294967295#64 - (Wd.hi db / 4294967296#64))) ((4294967295#64 - (Wd.lo db % 4294967296#64)) + 4294967296#64 * (4294967295#64 - (Wd.lo db / 4294967296#64))))) + 1#128)).toNat)]) rw_41 F H rfl rfl rfl rfl) (res_tmp F rfl) ⟨?_, H.below⟩
     exact congrArg Ending.returned (by rw [R1.sub_dig da db _ (R1.compl db), R1.less_e hl, decide_eq_true hm])
   ·skip
    refine Sx.seq fun K23 hK23 => ?_
    have F := F.tq (L28 g1 g2 g3 g6) rfl
    refine Dn F [some (L29 da db), some (pT g1 0), some (uH da), some (pT g2 0), some (uH db), some (bF), some (bF), some (pT g1 0), some (uH da), some (pT g2 0), some (uH db), some (bT), some (bT), some (pT g1 1), some (uL da), some (pT g2 1), some (uL db), some (bF), some (bF), some (bF), none, some (bF)] (fun L A w => Sx.Own w0 w [(true, g6, (L27 da db)), (true, g4, (L21 db)), (true, g3, (cond (L 20) (L27 da db) L1)), (true, g2, [uH db, uL db]), (true, g1, [uH da, uL da]), (true, g5, (L24 da db))] []) H.drew ?_ ?_
    ·refine ⟨?_, ?_, ?_, ?_, ?_, ?_, ?_, ?_, ?_, ?_, ?_, ?_, ?_, ?_, ?_, ?_, ?_, ?_, ?_, ?_, ?_, ?_, trivial⟩
     ·exact SV (fun _ _ _ F H => Lr 0 (L27 da db) rw_41 F H)
     ·exact Sa
     ·exact SV (fun _ _ _ F H => Ld 4 one_22 F H)
     ·exact Sa
     ·exact SV (fun _ _ _ F H => Ld 3 one_22 F H)
     ·exact SV (fun _ _ _ F _ => Bn bF F rfl rfl rfl (i_lt (decide_eq_false (by omega))))
     ·exact Sa
     ·exact SVg (fun _ _ _ F _ => Fd F (fa_41_0.default.h _ _ _))
     ·exact SVg (fun _ _ _ F H => Ld 4 one_22 F H)
     ·exact SVg (fun _ _ _ F _ => Fd F (fa_41_0.default.h _ _ _))
     ·exact SVg (fun _ _ _ F H => Ld 3 one_22 F H)
     ·exact SVg (fun _ _ _ F _ => Bn bT F rfl rfl rfl (i_eq (beq_iff_eq.2 (by omega))))
     ·exact SVg (fun _ _ _ F _ => d_move F (Or.inl rfl) rfl)
     ·exact SVg (fun _ _ _ F _ => Fd F (fa_41_1.default.h _ _ _))
     ·exact SVg (fun _ _ _ F H => Ld 4 one_22 F H)
     ·exact SVg (fun _ _ _ F _ => Fd F (fa_41_1.default.h _ _ _))
     ·exact SVg (fun _ _ _ F H => Ld 3 one_22 F H)
     ·exact SVg (fun _ _ _ F _ => Bn bF F rfl rfl rfl (i_lt (decide_eq_false (by omega))))
     ·exact SVg (fun _ _ _ F _ => d_pickT (v := bF) F rfl rfl rfl)
     ·exact Sa
     ·intro L A w up hun hd F H
      have f20 : L 20 = false := hun
      rw [f20] at H
      refine step_on rfl (d_store (i := 2) (xs := (L27 da db)) (us := (L27 da db)) sz_41 F H rfl rfl rfl rfl rfl rfl rfl (Nat.le_of_ble_eq_true rfl) rfl) ?_
      intro xv w' H
      exact ⟨Cn, H⟩
     ·exact Sa
    ·intro L A w hL F H
     have t20 : L 20 = true := hL 20 rfl
     rw [t20] at H
     have F := F.tq [(4, pT g3 0), (5, bF)] rfl
     refine hK23 _ _ (wp_ret ?_)
     try dsimp only [Exit.then, Exit.inBlock, Exit.jump, Exit.noGoto]
     refine ret2 F Tryz.results65 (res_row (i := 2) (xs := [iU ((Wd.hi ((da + (Wd.mk ((4294967295#64 - (Wd.hi db % 4294967296#64)) + 4294967296#64 * (4294967295#64 - (Wd.hi db / 4294967296#64))) ((4294967295#64 - (Wd.lo db % 4294967296#64)) + 4294967296#64 * (4294967295#64 - (Wd.lo db / 4294967296#64))))) + 1#128)).toNat), iU ((Wd.lo ((da + (Wd.mk ((4294967295#64 - (Wd.hi db % 4294967296#64)) + 4294967296#64 * (4294967295#64 - (Wd.hi db / 4294967296#64))) ((4294967295#64 - (Wd.lo db % 4294967296#64)) + 4294967296#64 * (4294967295#64 - (Wd.lo db / 4294967296#64))))) + 1#128)).toNat)]) rw_41 F H rfl rfl rfl rfl) (res_tmp F rfl) ⟨?_, H.below⟩
     exact congrArg Ending.returned (by rw [R1.sub_dig da db _ (R1.compl db), R1.less_e hl, decide_eq_false hm])
  ·skip
   refine Sx.seq fun K24 hK24 => ?_
   have F := F.tq (L28 g1 g2 g3 g6) rfl
   refine Dn F [some (L29 da db), some (pT g1 0), some (uH da), some (pT g2 0), some (uH db), some (bF), some (bF), some (pT g1 0), some (uH da), some (pT g2 0), some (uH db), some (bF), some (bF), some (undef), some (undef), some (undef), some (undef), some (undef), some (bF), some (bF), none, some (bF)] (fun L A w => Sx.Own w0 w [(true, g6, (L27 da db)), (true, g4, (L21 db)), (true, g3, (cond (L 20) (L27 da db) L1)), (true, g2, [uH db, uL db]), (true, g1, [uH da, uL da]), (true, g5, (L24 da db))] []) H.drew ?_ ?_
   ·refine ⟨?_, ?_, ?_, ?_, ?_, ?_, ?_, ?_, ?_, ?_, ?_, ?_, ?_, ?_, ?_, ?_, ?_, ?_, ?_, ?_, ?_, ?_, trivial⟩
    ·exact SV (fun _ _ _ F H => Lr 0 (L27 da db) rw_41 F H)
    ·exact Sa
    ·exact SV (fun _ _ _ F H => Ld 4 one_22 F H)
    ·exact Sa
    ·exact SV (fun _ _ _ F H => Ld 3 one_22 F H)
    ·exact SV (fun _ _ _ F _ => Bn bF F rfl rfl rfl (i_lt (decide_eq_false (by omega))))
    ·exact Sa
    ·exact SVg (fun _ _ _ F _ => Fd F (fa_41_0.default.h _ _ _))
    ·exact SVg (fun _ _ _ F H => Ld 4 one_22 F H)
    ·exact SVg (fun _ _ _ F _ => Fd F (fa_41_0.default.h _ _ _))
    ·exact SVg (fun _ _ _ F H => Ld 3 one_22 F H)
    ·exact SVg (fun _ _ _ F _ => Bn bF F rfl rfl rfl (i_eq (beq_false_of_ne (by omega))))
    ·exact SVg (fun _ _ _ F _ => d_move F (Or.inl rfl) rfl)
    ·exact SO
    ·exact SO
    ·exact SO
    ·exact SO
    ·exact SO
    ·exact SVg (fun _ _ _ F _ => d_pickF (v := bF) F rfl rfl rfl)
    ·exact Sa
    ·intro L A w up hun hd F H
     have f20 : L 20 = false := hun
     rw [f20] at H
     refine step_on rfl (d_store (i := 2) (xs := (L27 da db)) (us := (L27 da db)) sz_41 F H rfl rfl rfl rfl rfl rfl rfl (Nat.le_of_ble_eq_true rfl) rfl) ?_
     intro xv w' H
     exact ⟨Cn, H⟩
    ·exact Sa
   ·intro L A w hL F H
    have t20 : L 20 = true := hL 20 rfl
    rw [t20] at H
    have F := F.tq [(4, pT g3 0), (5, bF)] rfl
    refine hK24 _ _ (wp_ret ?_)
    try dsimp only [Exit.then, Exit.inBlock, Exit.jump, Exit.noGoto]
    refine ret2 F Tryz.results65 (res_row (i := 2) (xs := [iU ((Wd.hi ((da + (Wd.mk ((4294967295#64 - (Wd.hi db % 4294967296#64)) + 4294967296#64 * (4294967295#64 - (Wd.hi db / 4294967296#64))) ((4294967295#64 - (Wd.lo db % 4294967296#64)) + 4294967296#64 * (4294967295#64 - (Wd.lo db / 4294967296#64))))) + 1#128)).toNat), iU ((Wd.lo ((da + (Wd.mk ((4294967295#64 - (Wd.hi db % 4294967296#64)) + 4294967296#64 * (4294967295#64 - (Wd.hi db / 4294967296#64))) ((4294967295#64 - (Wd.lo db % 4294967296#64)) + 4294967296#64 * (4294967295#64 - (Wd.lo db / 4294967296#64))))) + 1#128)).toNat)]) rw_41 F H rfl rfl rfl rfl) (res_tmp F rfl) ⟨?_, H.below⟩
    exact congrArg Ending.returned (by rw [R1.sub_dig da db _ (R1.compl db), R1.less_g hl])
theorem Bi.then0 (pa pc qa qc : BitVec 128) : qa * (pa * 0#128 + pc) + qc = qa * pc + qc := by rw [BitVec.mul_zero, BitVec.zero_add]
theorem Bi.then1 (pa pc qa qc : BitVec 128) : qa * (pa * 1#128 + pc) + qc - (qa * (pa * 0#128 + pc) + qc) = qa * pa := by
  rw [BitVec.mul_one, BitVec.mul_zero, BitVec.zero_add, BitVec.mul_add, BitVec.add_assoc]
  exact BitVec.add_sub_cancel _ _
open Sx in
theorem rlen_c (x : BitVec 128) (w0 : World) : Calls Tryz.prog 31 #[.agg #[uH x, uL x]] w0 fun e w' => e = .returned (iI (Bi.len x)) ∧ Below w0.heap.size w0 w' := by
 refine En Tryz.func31 Tryz.ntmps31 fun A F => ?_
 have H := Sx.Own.start w0
 refine Sp fun _ kk => Zb F (d_box F H rfl rfl [uH x, uL x] rfl) fun g1 A w F H => ?_
 refine Av F fun A F => ?_
 refine Nl kk (Sp fun _ kk => Av F fun A F => ?_)
 refine Nl kk (Sp fun _ kk => Av F fun A F => ?_)
 refine Zr (mk := fun v => v) F (d_callR (vs := [.agg #[uH x, uL x]]) (mk := fun v => v) if_12 F H rfl rfl (rlist_c x _)) fun v1 A w F H => ?_
 refine Av F fun A F => ?_
 refine Nl kk (Sx.seq fun K4 hK4 => Sp fun _ kk => Av F fun A F => ?_)
 refine Nl kk (wp_block ?_)
 obtain ⟨lg, lc, rfl, hc1, hc2⟩ := H.open (i := 0) rfl (by omega)
 refine loop (fun q A w => ∃ i : Nat, q = 128 - i ∧ i ≤ 128 ∧ Fr 20 A [(4, sL lg 0 128 lc), (3, iI (Bi.lenN x.getLsbD i)), (5, iI i)] ∧ Sx.Own w0 w [(true, g1, [uH x, uL x])] [⟨true, sL lg 0 128 lc, 3, 1, 128, (Bi.bis (BitVec.getLsbD x) 128)⟩]) 128 ⟨0, rfl, Nat.zero_le _, F.to ⟨rfl, rfl, rfl, trivial⟩, H⟩ ?_
 rintro q A w ⟨i, rfl, hi, F, H⟩
 by_cases hlt : i < 128
 ·have hn := Bi.lenN_le x.getLsbD i
  cases hb : x.getLsbD i
  ·skip
   refine Sx.seq fun K6 hK6 => Sp fun _ kk => Av F fun A F => ?_
   refine Zv F (Bn bT F rfl rfl rfl (i_lt (decide_eq_true (by omega)))) fun A F => ?_
   refine Nl kk (condT F rfl (wp_skip (hK6 _ _ (Sx.seq fun K8 hK8 => wp_block (Sp fun _ kk => ?_)))))
   iterate 2 (refine Av F ?_; intro A F)
   refine Zv F (d_ixR (k := i) el_54 F rfl rfl rfl (rfl) (by omega)) fun A F => ?_
   refine Zv F (d_loadR (i := 0) (v := iI ((x.getLsbD i).toNat)) one_3 F H rfl rfl rfl (Bi.at_ _ _ _ (by omega))) fun A F => ?_
   refine Zv F (Bn bF F rfl rfl rfl (i_eq (by rw [hb]; rfl))) fun A F => ?_
   refine Nl kk (condF F rfl (wp_skip (hK8 _ _ (Sx.plain ?_))))
   refine Av F fun A F => ?_
   refine Zv F (Bn (iI (i + 1 : Nat)) F rfl rfl rfl (i_addN rfl (in_i64 _ (by omega)))) fun A F => ?_
   refine Av F fun A F => ?_
   refine Sx.nil ?_
   try dsimp only [Exit.then]
   refine ⟨128 - (i + 1), by omega, i + 1, rfl, by omega, ?_, H⟩
   have e : Bi.lenN x.getLsbD (i + 1) = Bi.lenN x.getLsbD i := by show (if x.getLsbD i = true then i + 1 else Bi.lenN x.getLsbD i) = _; rw [hb]; rfl
   rw [e]; exact F.to ⟨rfl, rfl, rfl, trivial⟩
  ·skip
   refine Sx.seq fun K10 hK10 => Sp fun _ kk => Av F fun A F => ?_
   refine Zv F (Bn bT F rfl rfl rfl (i_lt (decide_eq_true (by omega)))) fun A F => ?_
   refine Nl kk (condT F rfl (wp_skip (hK10 _ _ (Sx.seq fun K12 hK12 => wp_block (Sp fun _ kk => ?_)))))
   iterate 2 (refine Av F ?_; intro A F)
   refine Zv F (d_ixR (k := i) el_54 F rfl rfl rfl (rfl) (by omega)) fun A F => ?_
   refine Zv F (d_loadR (i := 0) (v := iI ((x.getLsbD i).toNat)) one_3 F H rfl rfl rfl (Bi.at_ _ _ _ (by omega))) fun A F => ?_
   refine Zv F (Bn bT F rfl rfl rfl (i_eq (by rw [hb]; rfl))) fun A F => ?_
   refine Nl kk (condT F rfl (Sx.plain ?_))
   refine Av F fun A F => ?_
   refine Zv F (Bn (iI (i + 1 : Nat)) F rfl rfl rfl (i_addN rfl (in_i64 _ (by omega)))) fun A F => ?_
   refine Av F fun A F => ?_
   refine Sx.nil (hK12 _ _ (Sx.plain ?_))
   refine Av F fun A F => ?_
   refine Zv F (Bn (iI (i + 1 : Nat)) F rfl rfl rfl (i_addN rfl (in_i64 _ (by omega)))) fun A F => ?_
   refine Av F fun A F => ?_
   refine Sx.nil ?_
   try dsimp only [Exit.then]
   refine ⟨128 - (i + 1), by omega, i + 1, rfl, by omega, ?_, H⟩
   have e : Bi.lenN x.getLsbD (i + 1) = i + 1 := by show (if x.getLsbD i = true then i + 1 else Bi.lenN x.getLsbD i) = _; rw [hb]; rfl
   rw [e]; exact F.to ⟨rfl, rfl, rfl, trivial⟩
 ·obtain rfl : i = 128 := by omega
  refine Sx.seq fun K14 hK14 => Sp fun _ kk => ?_
  iterate 2 (refine Av F ?_; intro A F)
  refine Nl kk (condF F rfl (wp_exit ?_))
  try dsimp only [Exit.then, Exit.jump]
  refine exit_here (hK4 _ _ (Sp fun _ kk => ?_))
  iterate 2 (refine Av F ?_; intro A F)
  refine Nl kk (wp_ret ?_)
  try dsimp only [Exit.then, Exit.inBlock, Exit.jump]
  refine ret1 F Tryz.results31 (res_tmp F rfl) ⟨?_, H.below⟩
  rfl
abbrev L30 (x0 x1 : BitVec 128) : Value := .agg #[uH x0, uL x0, uH x1, uL x1]
abbrev L31 (x0 x1 x2 : BitVec 128) : Value := .agg #[uH ((x0 * x1) + x2), uL ((x0 * x1) + x2)]
abbrev L32 (x0 x1 x2 : BitVec 128) : Value := .tuple #[.agg #[uH ((x0 * x1) + x2), uL ((x0 * x1) + x2)], .bool (Wd.over (x0 * x1) x2)]
abbrev L33 (x0 x1 x2 : BitVec 128) : List Value := [uH ((x0 * x1) + x2), uL ((x0 * x1) + x2)]
open Sx in
theorem rat9_c (pa pc x : BitVec 128) (w0 : World) : Calls Tryz.prog 9 #[(L30 pa pc), .agg #[uH x, uL x]] w0 fun e w' => e = .returned (.agg #[uH (pa * x + pc), uL (pa * x + pc)]) ∧ Below w0.heap.size w0 w' := by
 refine En Tryz.func9 Tryz.ntmps9 fun A F => ?_
 have H := Sx.Own.start w0
 refine Sp fun _ kk => Zb F (d_box F H rfl rfl [uH pa, uL pa, uH pc, uL pc] rfl) fun g1 A w F H => ?_
 refine Zb F (d_box F H rfl rfl [uH x, uL x] rfl) fun g2 A w F H => ?_
 refine Zb F (d_alloc H rfl L1 zero_41) fun g3 A w F H => ?_
 refine Nl kk (Sx.seq fun K2 hK2 => ?_)
 have F := F.tq [(0, (L30 pa pc)), (1, .agg #[uH x, uL x]), (2, pT g1 0), (3, pT g2 0), (4, pT g3 0)] rfl
 refine Dn F [some (pT g1 0), some (.agg #[uH pa, uL pa]), some (.agg #[uH x, uL x]), some (.agg #[uH (pa * x), uL (pa * x)]), some (pT g1 2), some (.agg #[uH pc, uL pc]), some (L32 pa x pc), some (L32 pa x pc), some (L31 pa x pc), some (.bool (Wd.over (pa * x) pc)), none, none, some (.bool (Wd.over (pa * x) pc))] (fun L A w => ∃ g4 : Nat, (L 10 = true → A.eval (.tmp 5) = pT g4 0) ∧ Sx.Own w0 w [(true, g3, L1), (true, g2, [uH x, uL x]), (true, g1, [uH pa, uL pa, uH pc, uL pc]), (L 10, g4, (cond (L 11) (L33 pa x pc) L1))] []) ⟨0, (fun h => by cases h), H.drew.pad L25 rfl [] rfl⟩ ?_ ?_
 ·refine ⟨?_, ?_, ?_, ?_, ?_, ?_, ?_, ?_, ?_, ?_, ?_, ?_, ?_, trivial⟩
  ·exact Sa (hS := (fun _ _ _ _ ⟨g4, p10, H⟩ => ⟨g4, Pk p10, H⟩))
  ·exact SV (fun _ _ _ F ⟨g4, p10, H⟩ => Lr 2 [uH pa, uL pa] rw_41 F H) (fun _ _ _ _ ⟨g4, p10, H⟩ => ⟨g4, Pk p10, H⟩)
  ·exact SV (fun _ _ _ F ⟨g4, p10, H⟩ => Lr 1 [uH x, uL x] rw_41 F H) (fun _ _ _ _ ⟨g4, p10, H⟩ => ⟨g4, Pk p10, H⟩)
  ·intro L A w up hun hd F ⟨g4, p10, H⟩
   have f11 : L 11 = false := up 11 3 rfl hun
   rw [f11] at H
   refine step_on rfl (Dc if_30 F H (rmul_c pa x _)) ?_
   rintro xv w' ⟨hx, H⟩
   exact ⟨Cs hx, ⟨g4, Pk p10, (by show Sx.Own _ _ _ _; rw [show Inv.add L 3 11 = false from f11]; exact H)⟩⟩
  ·exact Sa (hS := (fun _ _ _ _ ⟨g4, p10, H⟩ => ⟨g4, Pk p10, H⟩))
  ·exact SV (fun _ _ _ F ⟨g4, p10, H⟩ => Lr 2 [uH pc, uL pc] rw_41 F H) (fun _ _ _ _ ⟨g4, p10, H⟩ => ⟨g4, Pk p10, H⟩)
  ·intro L A w up hun hd F ⟨g4, p10, H⟩
   have f11 : L 11 = false := up 11 6 rfl hun
   rw [f11] at H
   refine step_on rfl (Dc if_29 F H (radd_c (pa * x) pc _)) ?_
   rintro xv w' ⟨hx, H⟩
   exact ⟨Cs hx, ⟨g4, Pk p10, (by show Sx.Own _ _ _ _; rw [show Inv.add L 6 11 = false from f11]; exact H)⟩⟩
  ·exact Sa (hS := (fun _ _ _ _ ⟨g4, p10, H⟩ => ⟨g4, Pk p10, H⟩))
  ·exact Sa (hS := (fun _ _ _ _ ⟨g4, p10, H⟩ => ⟨g4, Pk p10, H⟩))
  ·exact Sa (hS := (fun _ _ _ _ ⟨g4, p10, H⟩ => ⟨g4, Pk p10, H⟩))
  ·intro L A w up hun hd F ⟨g4, p10, H⟩
   have f10 : L 10 = false := hun
   have f11 : L 11 = false := up 11 10 rfl hun
   rw [f10, f11] at H
   refine step_on rfl (d_alloc_at H rfl 3 L1 zero_41) ?_
   rintro xv w' ⟨g', hx, H⟩
   exact ⟨Cn, ⟨g', (fun _ => (Sx.put_same F (by decide) _).trans hx), (by show Sx.Own _ _ _ _; rw [show Inv.add L 10 11 = false from f11]; exact H)⟩⟩
  ·intro L A w up hun hd F ⟨g4, p10, H⟩
   have t10 : L 10 = true := hd 10 rfl
   have f11 : L 11 = false := hun
   rw [t10, f11] at H
   have F := Fr.add F (p10 t10)
   refine step_on rfl (d_store (i := 3) (xs := (L33 pa x pc)) (us := (L33 pa x pc)) sz_41 F H rfl rfl rfl rfl rfl rfl rfl (Nat.le_of_ble_eq_true rfl) rfl) ?_
   intro xv w' H
   exact ⟨Cn, ⟨g4, p10, (by show Sx.Own _ _ _ _; rw [show Inv.add L 11 10 = true from t10]; exact H)⟩⟩
  ·intro L A w up hun hd F ⟨g4, p10, H⟩
   have t10 : L 10 = true := hd 10 rfl
   have t11 : L 11 = true := hd 11 rfl
   have G := H; rw [t10, t11] at G
   have F := Fr.add F (p10 t10)
   refine step_on rfl (d_move F (Or.inr rfl) rfl) ?_
   rintro xv w' ⟨hx, rfl⟩
   exact ⟨Cs hx, ⟨g4, Pk p10, H⟩⟩
 ·intro L A w hL F ⟨g4, p10, H⟩
  have t10 : L 10 = true := hL 10 rfl
  have t11 : L 11 = true := hL 11 rfl
  rw [t10, t11] at H
  have F := Fr.add F (p10 t10)
  have F := F.tq [(4, pT g3 0), (5, pT g4 0)] rfl
  refine hK2 _ _ (Sp fun _ kk => Av F fun A F => ?_)
  refine Zt F (d_store (i := 0) (xs := (L33 pa x pc)) (us := (L33 pa x pc)) sz_41 F H rfl rfl rfl rfl rfl rfl rfl (Nat.le_of_ble_eq_true rfl) rfl) fun A w F (H : Sx.Own w0 _ [(true, g3, (L33 pa x pc)), (true, g2, [uH x, uL x]), (true, g1, [uH pa, uL pa, uH pc, uL pc]), (true, g4, (L33 pa x pc))] []) => ?_
  refine Nl kk (wp_ret ?_)
  try dsimp only [Exit.then, Exit.inBlock, Exit.jump]
  refine ret1 F Tryz.results9 (res_row (i := 0) (xs := [uH ((pa * x) + pc), uL ((pa * x) + pc)]) rw_41 F H rfl rfl rfl rfl) ⟨?_, H.below⟩
  rfl
abbrev L34 (x0 x1 x2 x3 : BitVec 128) : Value := .agg #[uH (x0 * x1), uL (x0 * x1), uH (x0 * x2 + x3), uL (x0 * x2 + x3)]
abbrev L35 (x0 x1 x2 x3 : BitVec 128) : List Value := [uH (x0 * (x1 * 0#128 + x2) + x3), uL (x0 * (x1 * 0#128 + x2) + x3)]
abbrev L36 (x0 x1 x2 x3 : BitVec 128) : List Value := [uH (x0 * (x1 * 1#128 + x2) + x3), uL (x0 * (x1 * 1#128 + x2) + x3)]
abbrev L37 (x0 x1 x2 x3 : BitVec 128) : List Value := [uH ((x0 * (x1 * 1#128 + x2) + x3) - (x0 * (x1 * 0#128 + x2) + x3)), uL ((x0 * (x1 * 1#128 + x2) + x3) - (x0 * (x1 * 0#128 + x2) + x3))]
abbrev L38 (x0 x1 x2 x3 : BitVec 128) : List Value := [uH ((x0 * (x1 * 1#128 + x2) + x3) - (x0 * (x1 * 0#128 + x2) + x3)), uL ((x0 * (x1 * 1#128 + x2) + x3) - (x0 * (x1 * 0#128 + x2) + x3)), uH (x0 * (x1 * 0#128 + x2) + x3), uL (x0 * (x1 * 0#128 + x2) + x3)]
open Sx in
theorem rthen9_c (pa pc qa qc : BitVec 128) (w0 : World) : Calls Tryz.prog 32 #[(L30 pa pc), (L30 qa qc)] w0 fun e w' => e = .returned (L34 qa pa pc qc) ∧ Below w0.heap.size w0 w' := by
 refine En Tryz.func32 Tryz.ntmps32 fun A F => ?_
 have H := Sx.Own.start w0
 refine Sp fun _ kk => Zb F (d_box F H rfl rfl [uH pa, uL pa, uH pc, uL pc] rfl) fun g1 A w F H => ?_
 refine Zb F (d_box F H rfl rfl [uH qa, uL qa, uH qc, uL qc] rfl) fun g2 A w F H => ?_
 refine Zb F (d_alloc H rfl L3 zero_50) fun g3 A w F H => ?_
 refine Nl kk (Sx.seq fun K2 hK2 => ?_)
 have F := F.tq [(0, (L30 pa pc)), (1, (L30 qa qc)), (2, pT g1 0), (3, pT g2 0), (4, pT g3 0)] rfl
 refine Dn F [some (L30 qa qc), some (L30 pa pc), some (L2), some (.agg #[uH (pa * 0#128 + pc), uL (pa * 0#128 + pc)]), some (.agg #[uH (qa * (pa * 0#128 + pc) + qc), uL (qa * (pa * 0#128 + pc) + qc)]), none, none] (fun L A w => ∃ g4 : Nat, (L 5 = true → A.eval (.tmp 5) = pT g4 0) ∧ Sx.Own w0 w [(true, g3, L3), (true, g2, [uH qa, uL qa, uH qc, uL qc]), (true, g1, [uH pa, uL pa, uH pc, uL pc]), (L 5, g4, (cond (L 6) (L35 qa pa pc qc) L1))] []) ⟨0, (fun h => by cases h), H.drew.pad L25 rfl [] rfl⟩ ?_ ?_
 ·refine ⟨?_, ?_, ?_, ?_, ?_, ?_, ?_, trivial⟩
  ·exact SV (fun _ _ _ F ⟨g4, p5, H⟩ => Lr 1 [uH qa, uL qa, uH qc, uL qc] rw_50 F H) (fun _ _ _ _ ⟨g4, p5, H⟩ => ⟨g4, Pk p5, H⟩)
  ·exact SV (fun _ _ _ F ⟨g4, p5, H⟩ => Lr 2 [uH pa, uL pa, uH pc, uL pc] rw_50 F H) (fun _ _ _ _ ⟨g4, p5, H⟩ => ⟨g4, Pk p5, H⟩)
  ·exact SV (fun _ _ _ F _ => d_build (qs := #[]) (v := L2) F rfl rfl (by kernel_rfl)) (fun _ _ _ _ ⟨g4, p5, H⟩ => ⟨g4, Pk p5, H⟩)
  ·intro L A w up hun hd F ⟨g4, p5, H⟩
   have f6 : L 6 = false := up 6 3 rfl hun
   rw [f6] at H
   refine step_on rfl (Dc if_9 F H (rat9_c pa pc 0#128 _)) ?_
   rintro xv w' ⟨hx, H⟩
   exact ⟨Cs hx, ⟨g4, Pk p5, (by show Sx.Own _ _ _ _; rw [show Inv.add L 3 6 = false from f6]; exact H)⟩⟩
  ·intro L A w up hun hd F ⟨g4, p5, H⟩
   have f6 : L 6 = false := up 6 4 rfl hun
   rw [f6] at H
   refine step_on rfl (Dc if_9 F H (rat9_c qa qc (pa * 0#128 + pc) _)) ?_
   rintro xv w' ⟨hx, H⟩
   exact ⟨Cs hx, ⟨g4, Pk p5, (by show Sx.Own _ _ _ _; rw [show Inv.add L 4 6 = false from f6]; exact H)⟩⟩
  ·intro L A w up hun hd F ⟨g4, p5, H⟩
   have f5 : L 5 = false := hun
   have f6 : L 6 = false := up 6 5 rfl hun
   rw [f5, f6] at H
   refine step_on rfl (d_alloc_at H rfl 3 L1 zero_41) ?_
   rintro xv w' ⟨g', hx, H⟩
   exact ⟨Cn, ⟨g', (fun _ => (Sx.put_same F (by decide) _).trans hx), (by show Sx.Own _ _ _ _; rw [show Inv.add L 5 6 = false from f6]; exact H)⟩⟩
  ·intro L A w up hun hd F ⟨g4, p5, H⟩
   have t5 : L 5 = true := hd 5 rfl
   have f6 : L 6 = false := hun
   rw [t5, f6] at H
   have F := Fr.add F (p5 t5)
   refine step_on rfl (d_store (i := 3) (xs := (L35 qa pa pc qc)) (us := (L35 qa pa pc qc)) sz_41 F H rfl rfl rfl rfl rfl rfl rfl (Nat.le_of_ble_eq_true rfl) rfl) ?_
   intro xv w' H
   exact ⟨Cn, ⟨g4, p5, (by show Sx.Own _ _ _ _; rw [show Inv.add L 6 5 = true from t5]; exact H)⟩⟩
 ·intro L A w hL F ⟨g4, p5, H⟩
  have t5 : L 5 = true := hL 5 rfl
  have t6 : L 6 = true := hL 6 rfl
  rw [t5, t6] at H
  have F := Fr.add F (p5 t5)
  have F := F.tq [(2, pT g1 0), (3, pT g2 0), (4, pT g3 0), (5, pT g4 0)] rfl
  refine hK2 _ _ (Sx.seq fun K3 hK3 => ?_)
  have F := F.tq [(2, pT g1 0), (3, pT g2 0), (4, pT g3 0), (5, pT g4 0)] rfl
  refine Dn F [some (L30 qa qc), some (L30 pa pc), some (L26), some (.agg #[uH (pa * 1#128 + pc), uL (pa * 1#128 + pc)]), some (.agg #[uH (qa * (pa * 1#128 + pc) + qc), uL (qa * (pa * 1#128 + pc) + qc)]), none, none] (fun L A w => ∃ g5 : Nat, (L 5 = true → A.eval (.tmp 6) = pT g5 0) ∧ Sx.Own w0 w [(true, g3, L3), (true, g2, [uH qa, uL qa, uH qc, uL qc]), (true, g1, [uH pa, uL pa, uH pc, uL pc]), (true, g4, (L35 qa pa pc qc)), (L 5, g5, (cond (L 6) (L36 qa pa pc qc) L1))] []) ⟨0, (fun h => by cases h), H.drew.pad L25 rfl [] rfl⟩ ?_ ?_
  ·refine ⟨?_, ?_, ?_, ?_, ?_, ?_, ?_, trivial⟩
   ·exact SV (fun _ _ _ F ⟨g5, p5, H⟩ => Lr 1 [uH qa, uL qa, uH qc, uL qc] rw_50 F H) (fun _ _ _ _ ⟨g5, p5, H⟩ => ⟨g5, Pk p5, H⟩)
   ·exact SV (fun _ _ _ F ⟨g5, p5, H⟩ => Lr 2 [uH pa, uL pa, uH pc, uL pc] rw_50 F H) (fun _ _ _ _ ⟨g5, p5, H⟩ => ⟨g5, Pk p5, H⟩)
   ·exact SV (fun _ _ _ F _ => d_build (qs := #[(0, iU 0), (1, iU 1)]) (v := L26) F rfl rfl (by kernel_rfl)) (fun _ _ _ _ ⟨g5, p5, H⟩ => ⟨g5, Pk p5, H⟩)
   ·intro L A w up hun hd F ⟨g5, p5, H⟩
    have f6 : L 6 = false := up 6 3 rfl hun
    rw [f6] at H
    refine step_on rfl (Dc if_9 F H (rat9_c pa pc 1#128 _)) ?_
    rintro xv w' ⟨hx, H⟩
    exact ⟨Cs hx, ⟨g5, Pk p5, (by show Sx.Own _ _ _ _; rw [show Inv.add L 3 6 = false from f6]; exact H)⟩⟩
   ·intro L A w up hun hd F ⟨g5, p5, H⟩
    have f6 : L 6 = false := up 6 4 rfl hun
    rw [f6] at H
    refine step_on rfl (Dc if_9 F H (rat9_c qa qc (pa * 1#128 + pc) _)) ?_
    rintro xv w' ⟨hx, H⟩
    exact ⟨Cs hx, ⟨g5, Pk p5, (by show Sx.Own _ _ _ _; rw [show Inv.add L 4 6 = false from f6]; exact H)⟩⟩
   ·intro L A w up hun hd F ⟨g5, p5, H⟩
    have f5 : L 5 = false := hun
    have f6 : L 6 = false := up 6 5 rfl hun
    rw [f5, f6] at H
    refine step_on rfl (d_alloc_at H rfl 4 L1 zero_41) ?_
    rintro xv w' ⟨g', hx, H⟩
    exact ⟨Cn, ⟨g', (fun _ => (Sx.put_same F (by decide) _).trans hx), (by show Sx.Own _ _ _ _; rw [show Inv.add L 5 6 = false from f6]; exact H)⟩⟩
   ·intro L A w up hun hd F ⟨g5, p5, H⟩
    have t5 : L 5 = true := hd 5 rfl
    have f6 : L 6 = false := hun
    rw [t5, f6] at H
    have F := Fr.add F (p5 t5)
    refine step_on rfl (d_store (i := 4) (xs := (L36 qa pa pc qc)) (us := (L36 qa pa pc qc)) sz_41 F H rfl rfl rfl rfl rfl rfl rfl (Nat.le_of_ble_eq_true rfl) rfl) ?_
    intro xv w' H
    exact ⟨Cn, ⟨g5, p5, (by show Sx.Own _ _ _ _; rw [show Inv.add L 6 5 = true from t5]; exact H)⟩⟩
  ·intro L A w hL F ⟨g5, p5, H⟩
   have t5 : L 5 = true := hL 5 rfl
   have t6 : L 6 = true := hL 6 rfl
   rw [t5, t6] at H
   have F := Fr.add F (p5 t5)
   have F := F.tq [(4, pT g3 0), (5, pT g4 0), (6, pT g5 0)] rfl
   refine hK3 _ _ (Sp fun _ kk => ?_)
   iterate 2 (refine Av F ?_; intro A F)
   refine Zw F (Dc if_65 F H (rsub_c (qa * (pa * 1#128 + pc) + qc) (qa * (pa * 0#128 + pc) + qc) _)) fun A w F H => ?_
   iterate 3 (refine Av F ?_; intro A F)
   refine Zb F (d_alloc H rfl L1 zero_41) fun g6 A w F H => ?_
   refine Zt F (d_store (i := 0) (xs := (L37 qa pa pc qc)) (us := (L37 qa pa pc qc)) sz_41 F H rfl rfl rfl rfl rfl rfl rfl (Nat.le_of_ble_eq_true rfl) rfl) fun A w F (H : Sx.Own w0 _ [(true, g6, (L37 qa pa pc qc)), (true, g3, L3), (true, g2, [uH qa, uL qa, uH qc, uL qc]), (true, g1, [uH pa, uL pa, uH pc, uL pc]), (true, g4, (L35 qa pa pc qc)), (true, g5, (L36 qa pa pc qc))] []) => ?_
   refine Av F fun A F => ?_
   refine Nl kk (Sp fun _ kk => ?_)
   iterate 2 (refine Av F ?_; intro A F)
   refine Zv F (d_build (qs := #[(0, .agg #[uH ((qa * (pa * 1#128 + pc) + qc) - (qa * (pa * 0#128 + pc) + qc)), uL ((qa * (pa * 1#128 + pc) + qc) - (qa * (pa * 0#128 + pc) + qc))]), (1, .agg #[uH (qa * (pa * 0#128 + pc) + qc), uL (qa * (pa * 0#128 + pc) + qc)])]) (v := .agg #[uH ((qa * (pa * 1#128 + pc) + qc) - (qa * (pa * 0#128 + pc) + qc)), uL ((qa * (pa * 1#128 + pc) + qc) - (qa * (pa * 0#128 + pc) + qc)), uH (qa * (pa * 0#128 + pc) + qc), uL (qa * (pa * 0#128 + pc) + qc)]) F rfl rfl (by kernel_rfl)) fun A F => ?_
   refine Zt F (d_store (i := 1) (xs := (L38 qa pa pc qc)) (us := (L38 qa pa pc qc)) sz_50 F H rfl rfl rfl rfl rfl rfl rfl (Nat.le_of_ble_eq_true rfl) rfl) fun A w F (H : Sx.Own w0 _ [(true, g6, (L37 qa pa pc qc)), (true, g3, (L38 qa pa pc qc)), (true, g2, [uH qa, uL qa, uH qc, uL qc]), (true, g1, [uH pa, uL pa, uH pc, uL pc]), (true, g4, (L35 qa pa pc qc)), (true, g5, (L36 qa pa pc qc))] []) => ?_
   refine Nl kk (wp_ret ?_)
   try dsimp only [Exit.then, Exit.inBlock, Exit.jump]
   refine ret1 F Tryz.results32 (res_row (i := 1) (xs := [uH ((qa * (pa * 1#128 + pc) + qc) - (qa * (pa * 0#128 + pc) + qc)), uL ((qa * (pa * 1#128 + pc) + qc) - (qa * (pa * 0#128 + pc) + qc)), uH (qa * (pa * 0#128 + pc) + qc), uL (qa * (pa * 0#128 + pc) + qc)]) rw_50 F H rfl rfl rfl rfl) ⟨?_, H.below⟩
   rw [Bi.then1, Bi.then0]
abbrev L39 : Value := .agg #[uN (Wd.hi 1#128), uN (Wd.lo 1#128), uN (Wd.hi 0#128), uN (Wd.lo 0#128)]
abbrev L40 : List Value := [uN (Wd.hi 1#128), uN (Wd.lo 1#128), uN (Wd.hi 0#128), uN (Wd.lo 0#128)]
abbrev L41 (x0 x1 x2 : BitVec 128) (x3 : Nat) : List Value := [uH (((Af.pow ⟨x0, x1⟩ (x2.toNat / 2 ^ (x3 + 1))).a) * ((Af.pow ⟨x0, x1⟩ (x2.toNat / 2 ^ (x3 + 1))).a)), uL (((Af.pow ⟨x0, x1⟩ (x2.toNat / 2 ^ (x3 + 1))).a) * ((Af.pow ⟨x0, x1⟩ (x2.toNat / 2 ^ (x3 + 1))).a)), uH (((Af.pow ⟨x0, x1⟩ (x2.toNat / 2 ^ (x3 + 1))).a) * ((Af.pow ⟨x0, x1⟩ (x2.toNat / 2 ^ (x3 + 1))).c) + ((Af.pow ⟨x0, x1⟩ (x2.toNat / 2 ^ (x3 + 1))).c)), uL (((Af.pow ⟨x0, x1⟩ (x2.toNat / 2 ^ (x3 + 1))).a) * ((Af.pow ⟨x0, x1⟩ (x2.toNat / 2 ^ (x3 + 1))).c) + ((Af.pow ⟨x0, x1⟩ (x2.toNat / 2 ^ (x3 + 1))).c))]
open Sx in
theorem rpow9_c (pa pc x : BitVec 128) (w0 : World) : Calls Tryz.prog 10 #[(L30 pa pc), .agg #[uH x, uL x]] w0 fun e w' => e = .returned (.agg #[uH ((Af.pow ⟨pa, pc⟩ x.toNat).a), uL ((Af.pow ⟨pa, pc⟩ x.toNat).a), uH ((Af.pow ⟨pa, pc⟩ x.toNat).c), uL ((Af.pow ⟨pa, pc⟩ x.toNat).c)]) ∧ Below w0.heap.size w0 w' := by
 refine En Tryz.func10 Tryz.ntmps10 fun A F => ?_
 have H := Sx.Own.start w0
 refine Sp fun _ kk => Zb F (d_box F H rfl rfl [uH pa, uL pa, uH pc, uL pc] rfl) fun g1 A w F H => ?_
 refine Zb F (d_box F H rfl rfl [uH x, uL x] rfl) fun g2 A w F H => ?_
 refine Zb F (d_alloc H rfl L3 zero_50) fun g3 A w F H => ?_
 refine Nl kk (Sp fun _ kk => Zv F (d_build (qs := #[(0, iU 0), (1, iU 1)]) (v := L26) F rfl rfl (by kernel_rfl)) fun A F => ?_)
 refine Zv F (d_build (qs := #[(0, L26)]) (v := L39) F rfl rfl (by kernel_rfl)) fun A F => ?_
 refine Zb F (d_alloc H rfl L3 zero_50) fun g4 A w F H => ?_
 refine Zs 0 L40 sz_50 F H fun A w F H => ?_
 refine Nl kk (Sp fun _ kk => Av F fun A F => ?_)
 refine Zr (mk := fun v => v) F (d_callR (vs := [.agg #[uH x, uL x]]) (mk := fun v => v) if_12 F H rfl rfl (rlist_c x _)) fun v1 A w F H => ?_
 refine Av F fun A F => ?_
 refine Nl kk (Sx.seq fun K4 hK4 => Sp fun _ kk => Av F fun A F => ?_)
 refine Zw F (Dc if_31 F H (rlen_c x _)) fun A w F H => ?_
 refine Zv F (Bn (iI ((Bi.len x : Int) - 1)) F rfl rfl rfl (i_subS (in64 _ (by have := Bi.len_le x; omega)))) fun A F => ?_
 refine Av F fun A F => ?_
 refine Nl kk (wp_block ?_)
 obtain ⟨lg, lc, rfl, hc1, hc2⟩ := H.open (i := 0) rfl (by omega)
 refine loop (fun k A w => k ≤ 128 ∧ Fr 31 A [(2, pT g1 0), (4, pT g3 0), (5, pT g4 0), (6, sL lg 0 128 lc), (7, iI ((k : Int) - 1))] ∧ Sx.Own w0 w [(true, g4, [uH ((Af.pow ⟨pa, pc⟩ (x.toNat / 2 ^ k)).a), uL ((Af.pow ⟨pa, pc⟩ (x.toNat / 2 ^ k)).a), uH ((Af.pow ⟨pa, pc⟩ (x.toNat / 2 ^ k)).c), uL ((Af.pow ⟨pa, pc⟩ (x.toNat / 2 ^ k)).c)]), (true, g3, L3), (true, g2, [uH x, uL x]), (true, g1, [uH pa, uL pa, uH pc, uL pc])] [⟨true, sL lg 0 128 lc, 3, 1, 128, (Bi.bis (BitVec.getLsbD x) 128)⟩]) (Bi.len x) ⟨Bi.len_le x, F.to ⟨rfl, rfl, rfl, rfl, rfl, trivial⟩, by rw [Bi.len_shift]; exact H⟩ ?_
 rintro k A w ⟨hk, F, H⟩
 rcases k with _ | t
 ·skip
  refine Sx.seq fun K6 hK6 => Sp fun _ kk => ?_
  iterate 2 (refine Av F ?_; intro A F)
  refine Nl kk (condF F rfl (wp_exit ?_))
  try dsimp only [Exit.then, Exit.jump]
  refine exit_here (hK4 _ _ (Sp fun _ kk => Av F fun A F => ?_))
  refine Zs 1 [uH ((Af.pow ⟨pa, pc⟩ (x.toNat / 2 ^ 0)).a), uL ((Af.pow ⟨pa, pc⟩ (x.toNat / 2 ^ 0)).a), uH ((Af.pow ⟨pa, pc⟩ (x.toNat / 2 ^ 0)).c), uL ((Af.pow ⟨pa, pc⟩ (x.toNat / 2 ^ 0)).c)] sz_50 F H fun A w F H => ?_
  refine Nl kk (wp_ret ?_)
  try dsimp only [Exit.then, Exit.inBlock, Exit.jump]
  refine ret1 F Tryz.results10 (res_row (i := 1) (xs := [uH ((Af.pow ⟨pa, pc⟩ (x.toNat / 2 ^ 0)).a), uL ((Af.pow ⟨pa, pc⟩ (x.toNat / 2 ^ 0)).a), uH ((Af.pow ⟨pa, pc⟩ (x.toNat / 2 ^ 0)).c), uL ((Af.pow ⟨pa, pc⟩ (x.toNat / 2 ^ 0)).c)]) rw_50 F H rfl rfl rfl rfl) ⟨?_, H.below⟩
  rw [show x.toNat / 2 ^ 0 = x.toNat from by simp]
 ·cases hb : x.getLsbD t
  ·skip
   refine Sx.seq fun K9 hK9 => Sp fun _ kk => Av F fun A F => ?_
   refine Zv F (Bn bT F rfl rfl rfl (i_ge (decide_eq_true (by omega)))) fun A F => ?_
   refine Nl kk (condT F rfl (wp_skip (hK9 _ _ (Sx.seq fun K11 hK11 => wp_block (Sp fun _ kk => ?_)))))
   iterate 2 (refine Av F ?_; intro A F)
   refine Zw F (Dc if_32 F H (rthen9_c ((Af.pow ⟨pa, pc⟩ (x.toNat / 2 ^ (t + 1))).a) ((Af.pow ⟨pa, pc⟩ (x.toNat / 2 ^ (t + 1))).c) ((Af.pow ⟨pa, pc⟩ (x.toNat / 2 ^ (t + 1))).a) ((Af.pow ⟨pa, pc⟩ (x.toNat / 2 ^ (t + 1))).c) _)) fun A w F H => ?_
   refine Zs 0 (L41 pa pc x t) sz_50 F H fun A w F H => ?_
   refine Nl kk (Sp fun _ kk => ?_)
   iterate 2 (refine Av F ?_; intro A F)
   refine Zv F (d_ixR (k := t) el_54 F rfl rfl rfl (by omega) (by omega)) fun A F => ?_
   refine Zv F (d_loadR (i := 0) (v := iI ((x.getLsbD t).toNat)) one_3 F H rfl rfl rfl (Bi.at_ _ _ _ (by omega))) fun A F => ?_
   refine Zv F (Bn bF F rfl rfl rfl (i_eq (by rw [hb]; rfl))) fun A F => ?_
   refine Nl kk (condF F rfl (wp_skip (hK11 _ _ (Sx.plain ?_))))
   refine Av F fun A F => ?_
   refine Zv F (Bn (iI (((t : Nat) : Int) - 1)) F rfl rfl rfl (i_subS (by rw [in64 _ (by omega)]; omega))) fun A F => ?_
   refine Av F fun A F => ?_
   refine Sx.nil ?_
   try dsimp only [Exit.then]
   exact ⟨t, by omega, by omega, F.to ⟨rfl, rfl, rfl, rfl, rfl, trivial⟩, by rw [← Bi.pow_dbl0 ⟨pa, pc⟩ x t hb]; exact H⟩
  ·skip
   refine Sx.seq fun K14 hK14 => Sp fun _ kk => Av F fun A F => ?_
   refine Zv F (Bn bT F rfl rfl rfl (i_ge (decide_eq_true (by omega)))) fun A F => ?_
   refine Nl kk (condT F rfl (wp_skip (hK14 _ _ (Sx.seq fun K16 hK16 => wp_block (Sp fun _ kk => ?_)))))
   iterate 2 (refine Av F ?_; intro A F)
   refine Zw F (Dc if_32 F H (rthen9_c ((Af.pow ⟨pa, pc⟩ (x.toNat / 2 ^ (t + 1))).a) ((Af.pow ⟨pa, pc⟩ (x.toNat / 2 ^ (t + 1))).c) ((Af.pow ⟨pa, pc⟩ (x.toNat / 2 ^ (t + 1))).a) ((Af.pow ⟨pa, pc⟩ (x.toNat / 2 ^ (t + 1))).c) _)) fun A w F H => ?_
   refine Zs 0 (L41 pa pc x t) sz_50 F H fun A w F H => ?_
   refine Nl kk (Sp fun _ kk => ?_)
   iterate 2 (refine Av F ?_; intro A F)
   refine Zv F (d_ixR (k := t) el_54 F rfl rfl rfl (by omega) (by omega)) fun A F => ?_
   refine Zv F (d_loadR (i := 0) (v := iI ((x.getLsbD t).toNat)) one_3 F H rfl rfl rfl (Bi.at_ _ _ _ (by omega))) fun A F => ?_
   refine Zv F (Bn bT F rfl rfl rfl (i_eq (by rw [hb]; rfl))) fun A F => ?_
   refine Nl kk (condT F rfl (Sx.plain ?_))
   iterate 2 (refine Av F ?_; intro A F)
   refine Zw F (Dc if_32 F H (rthen9_c (((Af.pow ⟨pa, pc⟩ (x.toNat / 2 ^ (t + 1))).a) * ((Af.pow ⟨pa, pc⟩ (x.toNat / 2 ^ (t + 1))).a)) (((Af.pow ⟨pa, pc⟩ (x.toNat / 2 ^ (t + 1))).a) * ((Af.pow ⟨pa, pc⟩ (x.toNat / 2 ^ (t + 1))).c) + ((Af.pow ⟨pa, pc⟩ (x.toNat / 2 ^ (t + 1))).c)) pa pc _)) fun A w F H => ?_
   refine Zs 0 [iU ((Wd.hi (pa * (((Af.pow ⟨pa, pc⟩ (x.toNat / 2 ^ (t + 1))).a) * ((Af.pow ⟨pa, pc⟩ (x.toNat / 2 ^ (t + 1))).a)))).toNat), iU ((Wd.lo (pa * (((Af.pow ⟨pa, pc⟩ (x.toNat / 2 ^ (t + 1))).a) * ((Af.pow ⟨pa, pc⟩ (x.toNat / 2 ^ (t + 1))).a)))).toNat), iU ((Wd.hi (pa * (((Af.pow ⟨pa, pc⟩ (x.toNat / 2 ^ (t + 1))).a) * ((Af.pow ⟨pa, pc⟩ (x.toNat / 2 ^ (t + 1))).c) + ((Af.pow ⟨pa, pc⟩ (x.toNat / 2 ^ (t + 1))).c)) + pc)).toNat), iU ((Wd.lo (pa * (((Af.pow ⟨pa, pc⟩ (x.toNat / 2 ^ (t + 1))).a) * ((Af.pow ⟨pa, pc⟩ (x.toNat / 2 ^ (t + 1))).c) + ((Af.pow ⟨pa, pc⟩ (x.toNat / 2 ^ (t + 1))).c)) + pc)).toNat)] sz_50 F H fun A w F H => ?_
   refine Sx.nil (hK16 _ _ (Sx.plain ?_))
   refine Av F fun A F => ?_
   refine Zv F (Bn (iI (((t : Nat) : Int) - 1)) F rfl rfl rfl (i_subS (by rw [in64 _ (by omega)]; omega))) fun A F => ?_
   refine Av F fun A F => ?_
   refine Sx.nil ?_
   try dsimp only [Exit.then]
   exact ⟨t, by omega, by omega, F.to ⟨rfl, rfl, rfl, rfl, rfl, trivial⟩, by rw [← Bi.pow_dbl1 ⟨pa, pc⟩ x t hb]; exact H⟩
open Sx in
theorem aone_c  (w0 : World) : Calls Tryz.prog 256 #[] w0 fun e w' => e = .returned (L39) ∧ Below w0.heap.size w0 w' := by
 refine En Tryz.func256 Tryz.ntmps256 fun A F => ?_
 have H := Sx.Own.start w0
 refine Sp fun _ kk => Zb F (d_alloc H rfl L3 zero_316) fun g1 A w F H => ?_
 refine Nl kk (Sp fun _ kk => Zw F (d_call (vs := [iU 1]) (v := L26) if_15 F H rfl rfl (Calls.val (wofV_c 1#64 _) (by kernel_rfl) (by kernel_rfl))) fun A w F H => ?_)
 refine Zv F (d_build (qs := #[(0, L26)]) (v := L39) F rfl rfl (by kernel_rfl)) fun A F => ?_
 refine Zs 0 L40 sz_316 F H fun A w F H => ?_
 refine Nl kk (wp_ret ?_)
 try dsimp only [Exit.then, Exit.inBlock, Exit.jump]
 refine ret1 F Tryz.results256 (res_row (i := 0) (xs := [uN (Wd.hi 1#128), uN (Wd.lo 1#128), uN (Wd.hi 0#128), uN (Wd.lo 0#128)]) rw_316 F H rfl rfl rfl rfl) ⟨?_, H.below⟩
 rfl
open Sx in
theorem aat_c (qa qc x : BitVec 128) (w0 : World) : Calls Tryz.prog 253 #[(L30 qa qc), .agg #[uH x, uL x]] w0 fun e w' => e = .returned (.agg #[uH (qa * x + qc), uL (qa * x + qc)]) ∧ Below w0.heap.size w0 w' := by
 refine En Tryz.func253 Tryz.ntmps253 fun A F => ?_
 have H := Sx.Own.start w0
 refine Sp fun _ kk => Zb F (d_box F H rfl rfl [uH qa, uL qa, uH qc, uL qc] rfl) fun g1 A w F H => ?_
 refine Zb F (d_box F H rfl rfl [uH x, uL x] rfl) fun g2 A w F H => ?_
 refine Zb F (d_alloc H rfl L1 zero_26) fun g3 A w F H => ?_
 refine Nl kk (Sx.seq fun K2 hK2 => ?_)
 have F := F.tq [(0, (L30 qa qc)), (1, .agg #[uH x, uL x]), (2, pT g1 0), (3, pT g2 0), (4, pT g3 0)] rfl
 refine Dn F [some (pT g1 0), some (.agg #[uH qa, uL qa]), some (.agg #[uH x, uL x]), some (.agg #[uH (qa * x), uL (qa * x)]), some (pT g1 2), some (.agg #[uH qc, uL qc]), some (L32 qa x qc), some (L32 qa x qc), some (L31 qa x qc), some (.bool (Wd.over (qa * x) qc)), none, none, some (.bool (Wd.over (qa * x) qc))] (fun L A w => ∃ g4 : Nat, (L 10 = true → A.eval (.tmp 5) = pT g4 0) ∧ Sx.Own w0 w [(true, g3, L1), (true, g2, [uH x, uL x]), (true, g1, [uH qa, uL qa, uH qc, uL qc]), (L 10, g4, (cond (L 11) (L33 qa x qc) L1))] []) ⟨0, (fun h => by cases h), H.drew.pad L25 rfl [] rfl⟩ ?_ ?_
 ·refine ⟨?_, ?_, ?_, ?_, ?_, ?_, ?_, ?_, ?_, ?_, ?_, ?_, ?_, trivial⟩
  ·exact Sa (hS := (fun _ _ _ _ ⟨g4, p10, H⟩ => ⟨g4, Pk p10, H⟩))
  ·exact SV (fun _ _ _ F ⟨g4, p10, H⟩ => Lr 2 [uH qa, uL qa] rw_26 F H) (fun _ _ _ _ ⟨g4, p10, H⟩ => ⟨g4, Pk p10, H⟩)
  ·exact SV (fun _ _ _ F ⟨g4, p10, H⟩ => Lr 1 [uH x, uL x] rw_26 F H) (fun _ _ _ _ ⟨g4, p10, H⟩ => ⟨g4, Pk p10, H⟩)
  ·intro L A w up hun hd F ⟨g4, p10, H⟩
   have f11 : L 11 = false := up 11 3 rfl hun
   rw [f11] at H
   refine step_on rfl (Dc if_192 F H (wmul_c qa x _)) ?_
   rintro xv w' ⟨hx, H⟩
   exact ⟨Cs hx, ⟨g4, Pk p10, (by show Sx.Own _ _ _ _; rw [show Inv.add L 3 11 = false from f11]; exact H)⟩⟩
  ·exact Sa (hS := (fun _ _ _ _ ⟨g4, p10, H⟩ => ⟨g4, Pk p10, H⟩))
  ·exact SV (fun _ _ _ F ⟨g4, p10, H⟩ => Lr 2 [uH qc, uL qc] rw_26 F H) (fun _ _ _ _ ⟨g4, p10, H⟩ => ⟨g4, Pk p10, H⟩)
  ·intro L A w up hun hd F ⟨g4, p10, H⟩
   have f11 : L 11 = false := up 11 6 rfl hun
   rw [f11] at H
   refine step_on rfl (Dc if_14 F H (wadd_c (qa * x) qc _)) ?_
   rintro xv w' ⟨hx, H⟩
   exact ⟨Cs hx, ⟨g4, Pk p10, (by show Sx.Own _ _ _ _; rw [show Inv.add L 6 11 = false from f11]; exact H)⟩⟩
  ·exact Sa (hS := (fun _ _ _ _ ⟨g4, p10, H⟩ => ⟨g4, Pk p10, H⟩))
  ·exact Sa (hS := (fun _ _ _ _ ⟨g4, p10, H⟩ => ⟨g4, Pk p10, H⟩))
  ·exact Sa (hS := (fun _ _ _ _ ⟨g4, p10, H⟩ => ⟨g4, Pk p10, H⟩))
  ·intro L A w up hun hd F ⟨g4, p10, H⟩
   have f10 : L 10 = false := hun
   have f11 : L 11 = false := up 11 10 rfl hun
   rw [f10, f11] at H
   refine step_on rfl (d_alloc_at H rfl 3 L1 zero_26) ?_
   rintro xv w' ⟨g', hx, H⟩
   exact ⟨Cn, ⟨g', (fun _ => (Sx.put_same F (by decide) _).trans hx), (by show Sx.Own _ _ _ _; rw [show Inv.add L 10 11 = false from f11]; exact H)⟩⟩
  ·intro L A w up hun hd F ⟨g4, p10, H⟩
   have t10 : L 10 = true := hd 10 rfl
   have f11 : L 11 = false := hun
   rw [t10, f11] at H
   have F := Fr.add F (p10 t10)
   refine step_on rfl (d_store (i := 3) (xs := (L33 qa x qc)) (us := (L33 qa x qc)) sz_26 F H rfl rfl rfl rfl rfl rfl rfl (Nat.le_of_ble_eq_true rfl) rfl) ?_
   intro xv w' H
   exact ⟨Cn, ⟨g4, p10, (by show Sx.Own _ _ _ _; rw [show Inv.add L 11 10 = true from t10]; exact H)⟩⟩
  ·intro L A w up hun hd F ⟨g4, p10, H⟩
   have t10 : L 10 = true := hd 10 rfl
   have t11 : L 11 = true := hd 11 rfl
   have G := H; rw [t10, t11] at G
   have F := Fr.add F (p10 t10)
   refine step_on rfl (d_move F (Or.inr rfl) rfl) ?_
   rintro xv w' ⟨hx, rfl⟩
   exact ⟨Cs hx, ⟨g4, Pk p10, H⟩⟩
 ·intro L A w hL F ⟨g4, p10, H⟩
  have t10 : L 10 = true := hL 10 rfl
  have t11 : L 11 = true := hL 11 rfl
  rw [t10, t11] at H
  have F := Fr.add F (p10 t10)
  have F := F.tq [(0, (L30 qa qc)), (1, .agg #[uH x, uL x]), (4, pT g3 0), (5, pT g4 0)] rfl
  refine hK2 _ _ (Sp fun _ kk => Av F fun A F => ?_)
  refine Zt F (d_store (i := 0) (xs := (L33 qa x qc)) (us := (L33 qa x qc)) sz_26 F H rfl rfl rfl rfl rfl rfl rfl (Nat.le_of_ble_eq_true rfl) rfl) fun A w F (H : Sx.Own w0 _ [(true, g3, (L33 qa x qc)), (true, g2, [uH x, uL x]), (true, g1, [uH qa, uL qa, uH qc, uL qc]), (true, g4, (L33 qa x qc))] []) => ?_
  refine Nl kk (wp_ret ?_)
  try dsimp only [Exit.then, Exit.inBlock, Exit.jump]
  refine ret1 F Tryz.results253 (res_row (i := 0) (xs := [uH ((qa * x) + qc), uL ((qa * x) + qc)]) rw_26 F H rfl rfl rfl rfl) ⟨?_, H.below⟩
  rfl
open Sx in
theorem athen_c (qa qc qb qd : BitVec 128) (w0 : World) : Calls Tryz.prog 257 #[(L30 qa qc), (L30 qb qd)] w0 fun e w' => e = .returned (L34 qb qa qc qd) ∧ Below w0.heap.size w0 w' := by
 refine En Tryz.func257 Tryz.ntmps257 fun A F => ?_
 have H := Sx.Own.start w0
 refine Sp fun _ kk => Zb F (d_box F H rfl rfl [uH qa, uL qa, uH qc, uL qc] rfl) fun g1 A w F H => ?_
 refine Zb F (d_box F H rfl rfl [uH qb, uL qb, uH qd, uL qd] rfl) fun g2 A w F H => ?_
 refine Zb F (d_alloc H rfl L3 zero_316) fun g3 A w F H => ?_
 refine Nl kk (Sx.seq fun K2 hK2 => ?_)
 have F := F.tq [(0, (L30 qa qc)), (1, (L30 qb qd)), (2, pT g1 0), (3, pT g2 0), (4, pT g3 0)] rfl
 refine Dn F [some (pT g2 0), some (.agg #[uH qb, uL qb]), some (pT g1 0), some (.agg #[uH qa, uL qa]), some (.agg #[uH (qb * qa), uL (qb * qa)]), some (L30 qb qd), some (pT g1 2), some (.agg #[uH qc, uL qc]), some (.agg #[uH (qb * qc + qd), uL (qb * qc + qd)]), some (L34 qb qa qc qd), none] (fun L A w => Sx.Own w0 w [(true, g3, (cond (L 10) [uH (qb * qa), uL (qb * qa), uH (qb * qc + qd), uL (qb * qc + qd)] L3)), (true, g2, [uH qb, uL qb, uH qd, uL qd]), (true, g1, [uH qa, uL qa, uH qc, uL qc])] []) H.drew ?_ ?_
 ·refine ⟨?_, ?_, ?_, ?_, ?_, ?_, ?_, ?_, ?_, ?_, ?_, trivial⟩
  ·exact Sa
  ·exact SV (fun _ _ _ F H => Lr 1 [uH qb, uL qb] rw_26 F H)
  ·exact Sa
  ·exact SV (fun _ _ _ F H => Lr 2 [uH qa, uL qa] rw_26 F H)
  ·intro L A w up hun hd F H
   have f10 : L 10 = false := up 10 4 rfl hun
   rw [f10] at H
   refine step_on rfl (Dc if_192 F H (wmul_c qb qa _)) ?_
   rintro xv w' ⟨hx, H⟩
   exact ⟨Cs hx, (by show Sx.Own _ _ _ _; rw [show Inv.add L 4 10 = false from f10]; exact H)⟩
  ·exact SV (fun _ _ _ F H => Lr 1 [uH qb, uL qb, uH qd, uL qd] rw_316 F H)
  ·exact Sa
  ·exact SV (fun _ _ _ F H => Lr 2 [uH qc, uL qc] rw_26 F H)
  ·intro L A w up hun hd F H
   have f10 : L 10 = false := up 10 8 rfl hun
   rw [f10] at H
   refine step_on rfl (Dc if_253 F H (aat_c qb qd qc _)) ?_
   rintro xv w' ⟨hx, H⟩
   exact ⟨Cs hx, (by show Sx.Own _ _ _ _; rw [show Inv.add L 8 10 = false from f10]; exact H)⟩
  ·exact SV (fun _ _ _ F _ => d_build (qs := #[(0, .agg #[uH (qb * qa), uL (qb * qa)]), (1, .agg #[uH (qb * qc + qd), uL (qb * qc + qd)])]) (v := (L34 qb qa qc qd)) F rfl rfl (by kernel_rfl))
  ·intro L A w up hun hd F H
   have f10 : L 10 = false := hun
   rw [f10] at H
   refine step_on rfl (d_store (i := 0) (xs := [uH (qb * qa), uL (qb * qa), uH (qb * qc + qd), uL (qb * qc + qd)]) (us := [uH (qb * qa), uL (qb * qa), uH (qb * qc + qd), uL (qb * qc + qd)]) sz_316 F H rfl rfl rfl rfl rfl rfl rfl (Nat.le_of_ble_eq_true rfl) rfl) ?_
   intro xv w' H
   exact ⟨Cn, H⟩
 ·intro L A w hL F H
  have t10 : L 10 = true := hL 10 rfl
  rw [t10] at H
  have F := F.tq [(0, (L30 qa qc)), (1, (L30 qb qd)), (4, pT g3 0)] rfl
  refine hK2 _ _ (wp_ret ?_)
  try dsimp only [Exit.then, Exit.inBlock, Exit.jump]
  refine ret1 F Tryz.results257 (res_row (i := 0) (xs := [uH (qb * qa), uL (qb * qa), uH (qb * qc + qd), uL (qb * qc + qd)]) rw_316 F H rfl rfl rfl rfl) ⟨?_, H.below⟩
  rfl
theorem bit_odd (n : BitVec 128) : Wd.bit n 0 = (Af.odd n).toNat := rfl
set_option maxHeartbeats 4000000 in
open Sx in
theorem apow_c (ma mc n : BitVec 128) (w0 : World) : Calls Tryz.prog 254 #[.agg #[uH ma, uL ma, uH mc, uL mc], .agg #[uH n, uL n]] w0 fun e w' => e = .returned (.agg #[uH ((Af.pow ⟨ma, mc⟩ n.toNat).a), uL ((Af.pow ⟨ma, mc⟩ n.toNat).a), uH ((Af.pow ⟨ma, mc⟩ n.toNat).c), uL ((Af.pow ⟨ma, mc⟩ n.toNat).c)]) ∧ Below w0.heap.size w0 w' := by
 refine En Tryz.func254 Tryz.ntmps254 fun A F => ?_
 have H := Sx.Own.start w0
 refine Sp fun _ kk => Zb F (d_box F H rfl rfl [uH ma, uL ma, uH mc, uL mc] rfl) fun g1 A w F H => ?_
 refine Zb F (d_box F H rfl rfl [uH n, uL n] rfl) fun g2 A w F H => ?_
 refine Zb F (d_alloc H rfl [uN (Wd.hi 0#128), uN (Wd.lo 0#128), uN (Wd.hi 0#128), uN (Wd.lo 0#128)] zero_316) fun g3 A w F H => ?_
 refine Nl kk ?_
 refine Sx.scope 0 (fun m A w => ∃ (ob : Nat) (A' C' N' OA OC : BitVec 128), m = N'.toNat ∧ Af.thn ⟨OA, OC⟩ (Af.pow ⟨A', C'⟩ N'.toNat) = Af.pow ⟨ma, mc⟩ n.toNat ∧ Fr 22 A [(2, pT g1 0), (3, pT g2 0), (4, pT g3 0), (5, pT ob 0)] ∧ Sx.Own w0 w [(true, ob, [uH OA, uL OA, uH OC, uL OC]), (true, g3, [uN (Wd.hi 0#128), uN (Wd.lo 0#128), uN (Wd.hi 0#128), uN (Wd.lo 0#128)]), (true, g2, [uH N', uL N']), (true, g1, [uH A', uL A', uH C', uL C'])] []) rfl ?_ (fun first => ?_)
 ·rintro m A w ⟨ob, A', C', N', OA, OC, rfl, hJ, F, H⟩
  by_cases hz : N' = 0#128
  ·skip
   refine Sx.seq fun K2 hK2 => Sp fun _ kk => Av F fun A F => ?_
   refine Zv F (d_build (qs := #[]) (v := .agg #[uN (Wd.hi 0#128), uN (Wd.lo 0#128)]) F rfl rfl (by kernel_rfl)) fun A F => ?_
   refine Zv F (Bn bT F rfl rfl rfl (i_eqV (by rw [hz]; exact eqb_self _))) fun A F => ?_
   refine Nl kk (condT F rfl (Sp fun _ kk => Av F fun A F => ?_))
   refine Zs 1 [uH OA, uL OA, uH OC, uL OC] sz_316 F H fun A w F H => ?_
   refine Nl kk (wp_ret ?_)
   try dsimp only [Exit.then, Exit.inBlock, Exit.jump]
   refine ret1 F Tryz.results254 (res_row (i := 1) (xs := [uH OA, uL OA, uH OC, uL OC]) rw_316 F H rfl rfl rfl rfl) ⟨?_, H.below⟩
   exact congrArg Ending.returned (by rw [show Af.pow ⟨ma, mc⟩ n.toNat = ⟨OA, OC⟩ from by rw [← hJ, hz]; exact Af.thn_one _])
  ·skip
   have hlt : (N' >>> 1).toNat < N'.toNat := by rw [Af.half_nat]; have : N'.toNat ≠ 0 := fun e => hz (BitVec.eq_of_toNat_eq (by rw [e]; rfl)); omega
   cases ho : Af.odd N'
   ·skip
    refine Sx.seq fun K5 hK5 => Sp fun _ kk => Av F fun A F => ?_
    refine Zv F (d_build (qs := #[]) (v := .agg #[uN (Wd.hi 0#128), uN (Wd.lo 0#128)]) F rfl rfl (by kernel_rfl)) fun A F => ?_
    refine Zv F (Bn bF F rfl rfl rfl (i_eqV (eqb_ne hz))) fun A F => ?_
    refine Nl kk (condF F rfl (wp_skip (hK5 _ _ (Sx.seq fun K7 hK7 => Sp fun _ kk => Av F fun A F => ?_))))
    refine Zw F (Dc if_232 F H (wbit_c N' 0 (by omega) _)) fun A w F H => ?_
    refine Zv F (Bn bF F rfl rfl rfl (i_eq (by rw [bit_odd, ho]; rfl))) fun A F => ?_
    refine Nl kk (condF F rfl (wp_skip (hK7 _ _ (Sx.seq fun K9 hK9 => ?_))))
    have F := F.tq [(2, pT g1 0), (3, pT g2 0), (4, pT g3 0), (5, pT ob 0), (7, .agg #[uH N', uL N']), (8, .agg #[uN (Wd.hi 0#128), uN (Wd.lo 0#128)]), (9, bF), (11, .agg #[uH N', uL N']), (12, iI (Wd.bit N' 0)), (13, bF)] rfl
    refine Dn F [some (.agg #[uH A', uL A', uH C', uL C']), some (.agg #[uH A', uL A', uH C', uL C']), some (.agg #[uH (A' * A'), uL (A' * A'), uH (A' * C' + C'), uL (A' * C' + C')]), some (.agg #[uH N', uL N']), some (.agg #[uH (N' >>> 1), uL (N' >>> 1)]), none, none] (fun L A w => Sx.Own w0 w [(true, ob, [uH OA, uL OA, uH OC, uL OC]), (true, g3, [uN (Wd.hi 0#128), uN (Wd.lo 0#128), uN (Wd.hi 0#128), uN (Wd.lo 0#128)]), (true, g2, (cond (L 6) [uH (N' >>> 1), uL (N' >>> 1)] [uH N', uL N'])), (true, g1, (cond (L 5) [uH (A' * A'), uL (A' * A'), uH (A' * C' + C'), uL (A' * C' + C')] [uH A', uL A', uH C', uL C']))] []) H.drew ?_ ?_
    ·refine ⟨?_, ?_, ?_, ?_, ?_, ?_, ?_, trivial⟩
     ·intro L A w up hun hd F H
      have f5 : L 5 = false := up 5 0 rfl hun
      have f6 : L 6 = false := up 6 0 rfl hun
      have G := H; rw [f5, f6] at G
      refine step_on rfl (Lr 3 [uH A', uL A', uH C', uL C'] rw_316 F G) ?_
      rintro xv w' ⟨hx, rfl⟩
      exact ⟨Cs hx, H⟩
     ·intro L A w up hun hd F H
      have f5 : L 5 = false := up 5 1 rfl hun
      have f6 : L 6 = false := up 6 1 rfl hun
      have G := H; rw [f5, f6] at G
      refine step_on rfl (Lr 3 [uH A', uL A', uH C', uL C'] rw_316 F G) ?_
      rintro xv w' ⟨hx, rfl⟩
      exact ⟨Cs hx, H⟩
     ·intro L A w up hun hd F H
      have f5 : L 5 = false := up 5 2 rfl hun
      have f6 : L 6 = false := up 6 2 rfl hun
      rw [f5, f6] at H
      refine step_on rfl (Dc if_257 F H (athen_c A' C' A' C' _)) ?_
      rintro xv w' ⟨hx, H⟩
      exact ⟨Cs hx, (by show Sx.Own _ _ _ _; rw [show Inv.add L 2 5 = false from f5, show Inv.add L 2 6 = false from f6]; exact H)⟩
     ·intro L A w up hun hd F H
      have f4 : L 4 = false := up 4 3 rfl hun
      have f5 : L 5 = false := up 5 4 rfl f4
      have f6 : L 6 = false := up 6 3 rfl hun
      have G := H; rw [f5, f6] at G
      refine step_on rfl (Lr 2 [uH N', uL N'] rw_26 F G) ?_
      rintro xv w' ⟨hx, rfl⟩
      exact ⟨Cs hx, H⟩
     ·intro L A w up hun hd F H
      have f5 : L 5 = false := up 5 4 rfl hun
      have f6 : L 6 = false := up 6 4 rfl hun
      rw [f5, f6] at H
      refine step_on rfl (Dc (v := .agg #[uH (N' >>> 1), uL (N' >>> 1)]) if_125 F H (Calls.val (wright_c N' 1 (by omega) _) rfl (by kernel_rfl))) ?_
      rintro xv w' ⟨hx, H⟩
      exact ⟨Cs hx, (by show Sx.Own _ _ _ _; rw [show Inv.add L 4 5 = false from f5, show Inv.add L 4 6 = false from f6]; exact H)⟩
     ·intro L A w up hun hd F H
      have f5 : L 5 = false := hun
      have f6 : L 6 = false := up 6 5 rfl hun
      rw [f5, f6] at H
      refine step_on rfl (d_store (i := 3) (xs := [uH (A' * A'), uL (A' * A'), uH (A' * C' + C'), uL (A' * C' + C')]) (us := [uH (A' * A'), uL (A' * A'), uH (A' * C' + C'), uL (A' * C' + C')]) sz_316 F H rfl rfl rfl rfl rfl rfl rfl (Nat.le_of_ble_eq_true rfl) rfl) ?_
      intro xv w' H
      exact ⟨Cn, (by show Sx.Own _ _ _ _; rw [show Inv.add L 5 6 = false from f6]; exact H)⟩
     ·intro L A w up hun hd F H
      have t5 : L 5 = true := hd 5 rfl
      have f6 : L 6 = false := hun
      rw [t5, f6] at H
      refine step_on rfl (d_store (i := 2) (xs := [uH (N' >>> 1), uL (N' >>> 1)]) (us := [uH (N' >>> 1), uL (N' >>> 1)]) sz_26 F H rfl rfl rfl rfl rfl rfl rfl (Nat.le_of_ble_eq_true rfl) rfl) ?_
      intro xv w' H
      exact ⟨Cn, (by show Sx.Own _ _ _ _; rw [show Inv.add L 6 5 = true from t5]; exact H)⟩
    ·intro L A w hL F H
     have t5 : L 5 = true := hL 5 rfl
     have t6 : L 6 = true := hL 6 rfl
     rw [t5, t6] at H
     have F := F.tq [(2, pT g1 0), (3, pT g2 0), (4, pT g3 0), (5, pT ob 0), (7, .agg #[uH N', uL N']), (8, .agg #[uN (Wd.hi 0#128), uN (Wd.lo 0#128)]), (9, bF), (11, .agg #[uH N', uL N']), (12, iI (Wd.bit N' 0)), (13, bF)] rfl
     refine hK9 _ _ (wp_goto ?_)
     dsimp only [Exit.then, Exit.inBlock, Exit.jump]
     refine ⟨rfl, (N' >>> 1).toNat, hlt, ob, A' * A', A' * C' + C', N' >>> 1, OA, OC, rfl, ?_, F.to ⟨rfl, rfl, rfl, rfl, trivial⟩, H⟩
     have hr := Af.round ⟨OA, OC⟩ ⟨A', C'⟩ N'; rw [hJ] at hr; unfold Af.next at hr; rw [ho] at hr; exact hr
   ·skip
    refine Sx.seq fun K10 hK10 => Sp fun _ kk => Av F fun A F => ?_
    refine Zv F (d_build (qs := #[]) (v := .agg #[uN (Wd.hi 0#128), uN (Wd.lo 0#128)]) F rfl rfl (by kernel_rfl)) fun A F => ?_
    refine Zv F (Bn bF F rfl rfl rfl (i_eqV (eqb_ne hz))) fun A F => ?_
    refine Nl kk (condF F rfl (wp_skip (hK10 _ _ (Sx.seq fun K12 hK12 => Sp fun _ kk => Av F fun A F => ?_))))
    refine Zw F (Dc if_232 F H (wbit_c N' 0 (by omega) _)) fun A w F H => ?_
    refine Zv F (Bn bT F rfl rfl rfl (i_eq (by rw [bit_odd, ho]; rfl))) fun A F => ?_
    refine Nl kk (condT F rfl (Sx.plain ?_))
    iterate 2 (refine Av F ?_; intro A F)
    refine Zw F (Dc if_257 F H (athen_c OA OC A' C' _)) fun A w F H => ?_
    refine Zs 0 [uH (A' * OA), uL (A' * OA), uH (A' * OC + C'), uL (A' * OC + C')] sz_316 F H fun A w F H => ?_
    refine Sx.nil (hK12 _ _ (Sx.seq fun K14 hK14 => ?_))
    have F := F.tq [(2, pT g1 0), (3, pT g2 0), (4, pT g3 0), (5, pT ob 0), (7, .agg #[uH N', uL N']), (8, .agg #[uN (Wd.hi 0#128), uN (Wd.lo 0#128)]), (9, bF), (11, .agg #[uH N', uL N']), (12, iI (Wd.bit N' 0)), (13, bT), (14, .agg #[uH OA, uL OA, uH OC, uL OC]), (15, .agg #[uH A', uL A', uH C', uL C']), (16, .agg #[uH (A' * OA), uL (A' * OA), uH (A' * OC + C'), uL (A' * OC + C')])] rfl
    refine Dn F [some (.agg #[uH A', uL A', uH C', uL C']), some (.agg #[uH A', uL A', uH C', uL C']), some (.agg #[uH (A' * A'), uL (A' * A'), uH (A' * C' + C'), uL (A' * C' + C')]), some (.agg #[uH N', uL N']), some (.agg #[uH (N' >>> 1), uL (N' >>> 1)]), none, none] (fun L A w => Sx.Own w0 w [(true, ob, [uH (A' * OA), uL (A' * OA), uH (A' * OC + C'), uL (A' * OC + C')]), (true, g3, [uN (Wd.hi 0#128), uN (Wd.lo 0#128), uN (Wd.hi 0#128), uN (Wd.lo 0#128)]), (true, g2, (cond (L 6) [uH (N' >>> 1), uL (N' >>> 1)] [uH N', uL N'])), (true, g1, (cond (L 5) [uH (A' * A'), uL (A' * A'), uH (A' * C' + C'), uL (A' * C' + C')] [uH A', uL A', uH C', uL C']))] []) H.drew ?_ ?_
    ·refine ⟨?_, ?_, ?_, ?_, ?_, ?_, ?_, trivial⟩
     ·intro L A w up hun hd F H
      have f5 : L 5 = false := up 5 0 rfl hun
      have f6 : L 6 = false := up 6 0 rfl hun
      have G := H; rw [f5, f6] at G
      refine step_on rfl (Lr 3 [uH A', uL A', uH C', uL C'] rw_316 F G) ?_
      rintro xv w' ⟨hx, rfl⟩
      exact ⟨Cs hx, H⟩
     ·intro L A w up hun hd F H
      have f5 : L 5 = false := up 5 1 rfl hun
      have f6 : L 6 = false := up 6 1 rfl hun
      have G := H; rw [f5, f6] at G
      refine step_on rfl (Lr 3 [uH A', uL A', uH C', uL C'] rw_316 F G) ?_
      rintro xv w' ⟨hx, rfl⟩
      exact ⟨Cs hx, H⟩
     ·intro L A w up hun hd F H
      have f5 : L 5 = false := up 5 2 rfl hun
      have f6 : L 6 = false := up 6 2 rfl hun
      rw [f5, f6] at H
      refine step_on rfl (Dc if_257 F H (athen_c A' C' A' C' _)) ?_
      rintro xv w' ⟨hx, H⟩
      exact ⟨Cs hx, (by show Sx.Own _ _ _ _; rw [show Inv.add L 2 5 = false from f5, show Inv.add L 2 6 = false from f6]; exact H)⟩
     ·intro L A w up hun hd F H
      have f4 : L 4 = false := up 4 3 rfl hun
      have f5 : L 5 = false := up 5 4 rfl f4
      have f6 : L 6 = false := up 6 3 rfl hun
      have G := H; rw [f5, f6] at G
      refine step_on rfl (Lr 2 [uH N', uL N'] rw_26 F G) ?_
      rintro xv w' ⟨hx, rfl⟩
      exact ⟨Cs hx, H⟩
     ·intro L A w up hun hd F H
      have f5 : L 5 = false := up 5 4 rfl hun
      have f6 : L 6 = false := up 6 4 rfl hun
      rw [f5, f6] at H
      refine step_on rfl (Dc (v := .agg #[uH (N' >>> 1), uL (N' >>> 1)]) if_125 F H (Calls.val (wright_c N' 1 (by omega) _) rfl (by kernel_rfl))) ?_
      rintro xv w' ⟨hx, H⟩
      exact ⟨Cs hx, (by show Sx.Own _ _ _ _; rw [show Inv.add L 4 5 = false from f5, show Inv.add L 4 6 = false from f6]; exact H)⟩
     ·intro L A w up hun hd F H
      have f5 : L 5 = false := hun
      have f6 : L 6 = false := up 6 5 rfl hun
      rw [f5, f6] at H
      refine step_on rfl (d_store (i := 3) (xs := [uH (A' * A'), uL (A' * A'), uH (A' * C' + C'), uL (A' * C' + C')]) (us := [uH (A' * A'), uL (A' * A'), uH (A' * C' + C'), uL (A' * C' + C')]) sz_316 F H rfl rfl rfl rfl rfl rfl rfl (Nat.le_of_ble_eq_true rfl) rfl) ?_
      intro xv w' H
      exact ⟨Cn, (by show Sx.Own _ _ _ _; rw [show Inv.add L 5 6 = false from f6]; exact H)⟩
     ·intro L A w up hun hd F H
      have t5 : L 5 = true := hd 5 rfl
      have f6 : L 6 = false := hun
      rw [t5, f6] at H
      refine step_on rfl (d_store (i := 2) (xs := [uH (N' >>> 1), uL (N' >>> 1)]) (us := [uH (N' >>> 1), uL (N' >>> 1)]) sz_26 F H rfl rfl rfl rfl rfl rfl rfl (Nat.le_of_ble_eq_true rfl) rfl) ?_
      intro xv w' H
      exact ⟨Cn, (by show Sx.Own _ _ _ _; rw [show Inv.add L 6 5 = true from t5]; exact H)⟩
    ·intro L A w hL F H
     have t5 : L 5 = true := hL 5 rfl
     have t6 : L 6 = true := hL 6 rfl
     rw [t5, t6] at H
     have F := F.tq [(2, pT g1 0), (3, pT g2 0), (4, pT g3 0), (5, pT ob 0), (7, .agg #[uH N', uL N']), (8, .agg #[uN (Wd.hi 0#128), uN (Wd.lo 0#128)]), (9, bF), (11, .agg #[uH N', uL N']), (12, iI (Wd.bit N' 0)), (13, bT), (14, .agg #[uH OA, uL OA, uH OC, uL OC]), (15, .agg #[uH A', uL A', uH C', uL C']), (16, .agg #[uH (A' * OA), uL (A' * OA), uH (A' * OC + C'), uL (A' * OC + C')])] rfl
     refine hK14 _ _ (wp_goto ?_)
     dsimp only [Exit.then, Exit.inBlock, Exit.jump]
     refine ⟨rfl, (N' >>> 1).toNat, hlt, ob, A' * A', A' * C' + C', N' >>> 1, A' * OA, A' * OC + C', rfl, ?_, F.to ⟨rfl, rfl, rfl, rfl, trivial⟩, H⟩
     have hr := Af.round ⟨OA, OC⟩ ⟨A', C'⟩ N'; rw [hJ] at hr; unfold Af.next at hr; rw [ho] at hr; exact hr
 ·skip
  refine Sx.seq (fun Kl hKl => ?_)
  refine Sx.plain ?_
  refine Zw F (Dc if_256 F H (aone_c _)) fun A w F H => ?_
  refine Zb F (d_alloc H rfl [uN (Wd.hi 0#128), uN (Wd.lo 0#128), uN (Wd.hi 0#128), uN (Wd.lo 0#128)] zero_316) fun g4 A w F H => ?_
  refine Zs 0 [uN (Wd.hi 1#128), uN (Wd.lo 1#128), uN (Wd.hi 0#128), uN (Wd.lo 0#128)] sz_316 F H fun A w F H => ?_
  refine Sx.nil (hKl _ _ ?_)
  refine Sx.seq (fun Km hKm => ?_)
  refine wp_label (hKm _ _ ?_)
  exact first _ _ _ ⟨g4, ma, mc, n, 1#128, 0#128, rfl, Af.one_thn _, F.to ⟨rfl, rfl, rfl, rfl, trivial⟩, H⟩

section
namespace Pc
open Af
def factor : BitVec 128 := 0xda942042e4dd58b5#128
structure St where
  s : BitVec 128
  i : BitVec 128
def map (x : St) : Map := ⟨factor, x.i⟩
def step (x : St) : St := ⟨at' (map x) x.s, x.i⟩
def back (x : St) : St := ⟨at' (inverse (map x)) x.s, x.i⟩
def jump (x : St) (n : BitVec 128) : St := ⟨at' (pow (map x) n.toNat) x.s, x.i⟩
theorem odd_factor : odd factor = true := by decide +kernel
theorem back_step (x : St) : back (step x) = x := by
  show St.mk (at' (inverse (map x)) (at' (map x) x.s)) x.i = x
  rw [inverse_at _ odd_factor]
end Pc
end
def Pc.word (s : BitVec 128) : BitVec 64 := (((Wd.hi s ^^^ (Wd.hi s >>> 32)) * 15750249268501108917#64) ^^^ (((Wd.hi s ^^^ (Wd.hi s >>> 32)) * 15750249268501108917#64) >>> 48)) * (Wd.lo s ||| 1#64)
abbrev L42 (x0 : BitVec 128) : Value := .agg #[uN (Wd.hi 15750249268501108917#128), uN (Wd.lo 15750249268501108917#128), uH x0, uL x0]
abbrev L43 : Value := .agg #[uN (Wd.hi 15750249268501108917#128), uN (Wd.lo 15750249268501108917#128)]
abbrev L44 (x0 : BitVec 128) : List Value := [uN (Wd.hi 15750249268501108917#128), uN (Wd.lo 15750249268501108917#128), uH x0, uL x0]
open Sx in
theorem pmap_c (ss si : BitVec 128) (w0 : World) : Calls Tryz.prog 255 #[(L30 ss si)] w0 fun e w' => e = .returned (L42 si) ∧ Below w0.heap.size w0 w' := by
 refine En Tryz.func255 Tryz.ntmps255 fun A F => ?_
 have H := Sx.Own.start w0
 refine Sp fun _ kk => Zb F (d_box F H rfl rfl [uH ss, uL ss, uH si, uL si] rfl) fun g1 A w F H => ?_
 refine Zb F (d_alloc H rfl L3 zero_316) fun g2 A w F H => ?_
 refine Nl kk (Sx.seq fun K2 hK2 => ?_)
 have F := F.tq [(0, (L30 ss si)), (1, pT g1 0), (2, pT g2 0)] rfl
 refine Dn F [some (L43), some (pT g1 2), some (.agg #[uH si, uL si]), some (L42 si), none] (fun L A w => Sx.Own w0 w [(true, g2, (cond (L 4) (L44 si) L3)), (true, g1, [uH ss, uL ss, uH si, uL si])] []) H.drew ?_ ?_
 ·refine ⟨?_, ?_, ?_, ?_, ?_, trivial⟩
  ·intro L A w up hun hd F H
   have f4 : L 4 = false := up 4 0 rfl hun
   rw [f4] at H
   refine step_on rfl (d_call (vs := [iU 15750249268501108917]) (v := L43) if_15 F H rfl rfl (Calls.val (wofV_c 15750249268501108917#64 _) (by kernel_rfl) (by kernel_rfl))) ?_
   rintro xv w' ⟨hx, H⟩
   exact ⟨Cs hx, (by show Sx.Own _ _ _ _; rw [show Inv.add L 0 4 = false from f4]; exact H)⟩
  ·exact Sa
  ·exact SV (fun _ _ _ F H => Lr 1 [uH si, uL si] rw_26 F H)
  ·exact SV (fun _ _ _ F _ => d_build (qs := #[(0, L43), (1, .agg #[uH si, uL si])]) (v := (L42 si)) F rfl rfl (by kernel_rfl))
  ·intro L A w up hun hd F H
   have f4 : L 4 = false := hun
   rw [f4] at H
   refine step_on rfl (d_store (i := 0) (xs := (L44 si)) (us := (L44 si)) sz_316 F H rfl rfl rfl rfl rfl rfl rfl (Nat.le_of_ble_eq_true rfl) rfl) ?_
   intro xv w' H
   exact ⟨Cn, H⟩
 ·intro L A w hL F H
  have t4 : L 4 = true := hL 4 rfl
  rw [t4] at H
  have F := F.tq [(0, (L30 ss si)), (2, pT g2 0)] rfl
  refine hK2 _ _ (wp_ret ?_)
  try dsimp only [Exit.then, Exit.inBlock, Exit.jump]
  refine ret1 F Tryz.results255 (res_row (i := 0) (xs := [uN (Wd.hi 15750249268501108917#128), uN (Wd.lo 15750249268501108917#128), uH si, uL si]) rw_316 F H rfl rfl rfl rfl) ⟨?_, H.below⟩
  rfl
open Sx in
theorem pright_c (ss si : BitVec 128) (w0 : World) : Calls Tryz.prog 250 #[(L30 ss si)] w0 fun e w' => e = .returned (.bool (Af.odd si)) ∧ Below w0.heap.size w0 w' := by
 refine En Tryz.func250 Tryz.ntmps250 fun A F => ?_
 have H := Sx.Own.start w0
 refine Sp fun _ kk => Zb F (d_box F H rfl rfl [uH ss, uL ss, uH si, uL si] rfl) fun g1 A w F H => ?_
 refine Av F fun A F => ?_
 refine Nl kk (Sp fun _ kk => ?_)
 iterate 2 (refine Av F ?_; intro A F)
 refine Zw F (Dc if_232 F H (wbit_c si 0 (by omega) _)) fun A w F H => ?_
 refine Zv F (Bn (.bool (((Wd.bit si 0) : Int) == 1)) F rfl rfl rfl (i_eq rfl)) fun A F => ?_
 refine Av F fun A F => ?_
 refine Nl kk (wp_ret ?_)
 try dsimp only [Exit.then, Exit.inBlock, Exit.jump]
 refine ret1 F Tryz.results250 (res_tmp F rfl) ⟨?_, H.below⟩
 exact congrArg (fun q => Ending.returned (.bool q)) (by rw [bit_odd]; cases Af.odd si <;> rfl)
abbrev L45 (x0 x1 x2 : BitVec 128) : Value := .agg #[uH ((Pc.jump ⟨x0, x1⟩ x2).s), uL ((Pc.jump ⟨x0, x1⟩ x2).s), uH x1, uL x1]
abbrev L46 (x0 x1 : BitVec 128) : Value := .agg #[uH ((Af.pow ⟨15750249268501108917#128, x0⟩ (x1).toNat).a), uL ((Af.pow ⟨15750249268501108917#128, x0⟩ (x1).toNat).a), uH ((Af.pow ⟨15750249268501108917#128, x0⟩ (x1).toNat).c), uL ((Af.pow ⟨15750249268501108917#128, x0⟩ (x1).toNat).c)]
abbrev L47 (x0 x1 x2 : BitVec 128) : Value := .agg #[uH (((Af.pow ⟨15750249268501108917#128, x0⟩ (x1).toNat).a) * x2 + ((Af.pow ⟨15750249268501108917#128, x0⟩ (x1).toNat).c)), uL (((Af.pow ⟨15750249268501108917#128, x0⟩ (x1).toNat).a) * x2 + ((Af.pow ⟨15750249268501108917#128, x0⟩ (x1).toNat).c))]
abbrev L48 (x0 x1 x2 : BitVec 128) : Value := .agg #[uH (((Af.pow ⟨15750249268501108917#128, x0⟩ (x1).toNat).a) * x2 + ((Af.pow ⟨15750249268501108917#128, x0⟩ (x1).toNat).c)), uL (((Af.pow ⟨15750249268501108917#128, x0⟩ (x1).toNat).a) * x2 + ((Af.pow ⟨15750249268501108917#128, x0⟩ (x1).toNat).c)), uH x0, uL x0]
abbrev L49 (x0 x1 x2 : BitVec 128) : List Value := [uH (((Af.pow ⟨15750249268501108917#128, x0⟩ (x1).toNat).a) * x2 + ((Af.pow ⟨15750249268501108917#128, x0⟩ (x1).toNat).c)), uL (((Af.pow ⟨15750249268501108917#128, x0⟩ (x1).toNat).a) * x2 + ((Af.pow ⟨15750249268501108917#128, x0⟩ (x1).toNat).c)), uH x0, uL x0]
open Sx in
theorem pjump_ok (ss si n : BitVec 128) (ho : Af.odd si = true) (w0 : World) : Calls Tryz.prog 249 #[(L30 ss si), .agg #[uH n, uL n]] w0 fun e w' => e = .returned (.tuple #[(L45 ss si n), iI 0]) ∧ Below w0.heap.size w0 w' := by
 refine En Tryz.func249 Tryz.ntmps249 fun A F => ?_
 have H := Sx.Own.start w0
 refine Sp fun _ kk => Zb F (d_box F H rfl rfl [uH ss, uL ss, uH si, uL si] rfl) fun g1 A w F H => ?_
 refine Zb F (d_box F H rfl rfl [uH n, uL n] rfl) fun g2 A w F H => ?_
 refine Zb F (d_alloc H rfl L3 zero_28) fun g3 A w F H => ?_
 refine Av F fun A F => ?_
 refine Nl kk (Sx.seq fun K2 hK2 => Sp fun _ kk => Av F fun A F => ?_)
 refine Zw F (Dc (v := bT) if_250 F H (Calls.val (pright_c ss si _) rfl (congrArg Value.bool (ho)))) fun A w F H => ?_
 refine Zv F (d_un (v := bF) F rfl rfl rfl) fun A F => ?_
 refine Nl kk (condF F rfl (wp_skip (hK2 _ _ (Sx.seq fun K4 hK4 => ?_))))
 have F := F.tq [(0, (L30 ss si)), (1, .agg #[uH n, uL n]), (2, pT g1 0), (3, pT g2 0), (4, pT g3 0), (6, (L30 ss si)), (7, bT), (8, bF)] rfl
 refine Dn F [some (L30 ss si), some (L42 si), some (.agg #[uH n, uL n]), some (L46 si n), some (pT g1 0), some (.agg #[uH ss, uL ss]), some (L47 si n ss), some (pT g1 2), some (.agg #[uH si, uL si]), some (L48 si n ss), none, some (iI 0)] (fun L A w => Sx.Own w0 w [(true, g3, (cond (L 10) (L49 si n ss) L3)), (true, g2, [uH n, uL n]), (true, g1, [uH ss, uL ss, uH si, uL si])] []) H.drew ?_ ?_
 ·refine ⟨?_, ?_, ?_, ?_, ?_, ?_, ?_, ?_, ?_, ?_, ?_, ?_, trivial⟩
  ·exact SV (fun _ _ _ F H => Lr 2 [uH ss, uL ss, uH si, uL si] rw_28 F H)
  ·intro L A w up hun hd F H
   have f10 : L 10 = false := up 10 1 rfl hun
   rw [f10] at H
   refine step_on rfl (Dc if_255 F H (pmap_c ss si _)) ?_
   rintro xv w' ⟨hx, H⟩
   exact ⟨Cs hx, (by show Sx.Own _ _ _ _; rw [show Inv.add L 1 10 = false from f10]; exact H)⟩
  ·exact SV (fun _ _ _ F H => Lr 1 [uH n, uL n] rw_26 F H)
  ·intro L A w up hun hd F H
   have f10 : L 10 = false := up 10 3 rfl hun
   rw [f10] at H
   refine step_on rfl (Dc if_254 F H (apow_c 15750249268501108917#128 si n _)) ?_
   rintro xv w' ⟨hx, H⟩
   exact ⟨Cs hx, (by show Sx.Own _ _ _ _; rw [show Inv.add L 3 10 = false from f10]; exact H)⟩
  ·exact Sa
  ·exact SV (fun _ _ _ F H => Lr 2 [uH ss, uL ss] rw_26 F H)
  ·intro L A w up hun hd F H
   have f10 : L 10 = false := up 10 6 rfl hun
   rw [f10] at H
   refine step_on rfl (Dc if_253 F H (aat_c ((Af.pow ⟨15750249268501108917#128, si⟩ (n).toNat).a) ((Af.pow ⟨15750249268501108917#128, si⟩ (n).toNat).c) ss _)) ?_
   rintro xv w' ⟨hx, H⟩
   exact ⟨Cs hx, (by show Sx.Own _ _ _ _; rw [show Inv.add L 6 10 = false from f10]; exact H)⟩
  ·exact Sa
  ·exact SV (fun _ _ _ F H => Lr 2 [uH si, uL si] rw_26 F H)
  ·exact SV (fun _ _ _ F _ => d_build (qs := #[(0, (L47 si n ss)), (1, .agg #[uH si, uL si])]) (v := (L48 si n ss)) F rfl rfl (by kernel_rfl))
  ·intro L A w up hun hd F H
   have f10 : L 10 = false := hun
   rw [f10] at H
   refine step_on rfl (d_store (i := 0) (xs := (L49 si n ss)) (us := (L49 si n ss)) sz_28 F H rfl rfl rfl rfl rfl rfl rfl (Nat.le_of_ble_eq_true rfl) rfl) ?_
   intro xv w' H
   exact ⟨Cn, H⟩
  ·exact Sa
 ·intro L A w hL F H
  have t10 : L 10 = true := hL 10 rfl
  rw [t10] at H
  have F := F.tq [(0, (L30 ss si)), (1, .agg #[uH n, uL n]), (2, pT g1 0), (4, pT g3 0), (6, (L30 ss si)), (7, bT), (8, bF), (5, iI 0)] rfl
  refine hK4 _ _ (wp_ret ?_)
  try dsimp only [Exit.then, Exit.inBlock, Exit.jump]
  refine ret2 F Tryz.results249 (res_row (i := 0) (xs := [uH (((Af.pow ⟨15750249268501108917#128, si⟩ (n).toNat).a) * ss + ((Af.pow ⟨15750249268501108917#128, si⟩ (n).toNat).c)), uL (((Af.pow ⟨15750249268501108917#128, si⟩ (n).toNat).a) * ss + ((Af.pow ⟨15750249268501108917#128, si⟩ (n).toNat).c)), uH si, uL si]) rw_28 F H rfl rfl rfl rfl) (res_tmp F rfl) ⟨?_, H.below⟩
  rfl
namespace Pc
end Pc



namespace Hf
def low (x : BitVec 64) : BitVec 32 := x.setWidth 32
def top (x : BitVec 64) : BitVec 32 := (x >>> 32).setWidth 32
def pair (l h : BitVec 32) : BitVec 64 := h ++ l
theorem low_nat (x : BitVec 64) : (low x).toNat = x.toNat % 4294967296 := by simp [low]
end Hf
end Go.Proofs.YteecadoakmdibaaGreat
