/- What the proof of TopJump leans on: part 6. -/
import Derived.Test.YteecadoakmdibaaGreatQ1
import Derived.Test.YteecadoakmdibaaGreatQ2
import Derived.Test.YteecadoakmdibaaGreatQ3
import Derived.Test.YteecadoakmdibaaGreatQ5
import Derived.WalkMore
import Derived.Deep.RegionHeld3
set_option maxRecDepth 100000
set_option maxHeartbeats 4000000
namespace Go.Proofs.YteecadoakmdibaaGreat
open Go Go.RowKit
theorem Mt.At.keep {w w' : World} {b : Nat} {f : Nat → St} (h : Mt.At w b f) (hb : Below w.heap.size w w') : Mt.At w' b f := fun j u hj => keep_cell hb _ _ (h j u hj)
open Sx in
theorem rturn45_c (x : BitVec 64) (w0 : World) : Calls Tryz.prog 92 #[uN x, iI 45] w0 fun e w' => e = .returned (uN (Xo.rotl x 45)) ∧ Below w0.heap.size w0 w' := by
 refine En Tryz.func92 Tryz.ntmps92 fun A F => ?_
 have H := Sx.Own.start w0
 refine Sp fun _ kk => Av F fun A F => ?_
 refine Nl kk (Sx.seq fun K2 hK2 => ?_)
 have F := F.tq [(0, uN x), (1, iI 45)] rfl
 refine Dn F [some (uN x), some (iI 45), some (uN (x <<< 45)), some (uN x), some (iI 45), some (iI 19), some (uN (x >>> 19)), some (uN ((x <<< 45) ||| (x >>> 19))), some (uN ((x <<< 45) ||| (x >>> 19)))] (fun L A w => Sx.Own w0 w [] []) H.drew ?_ ?_
 ·refine ⟨?_, ?_, ?_, ?_, ?_, ?_, ?_, ?_, ?_, trivial⟩
  ·exact Sa
  ·exact Sa
  ·exact SV (fun _ _ _ F _ => Bn (uN (x <<< 45)) F rfl rfl rfl (i_shl64 x 45 (by decide) _))
  ·exact Sa
  ·exact Sa
  ·exact SV (fun _ _ _ F _ => Bn (iI 19) F rfl rfl rfl (i_subS (by decide)))
  ·exact SV (fun _ _ _ F _ => Bn (uN (x >>> 19)) F rfl rfl rfl (i_shr64 x 19 (by decide) _))
  ·exact SV (fun _ _ _ F _ => Bn (uN ((x <<< 45) ||| (x >>> 19))) F rfl rfl rfl (i_or64 (x <<< 45) (x >>> 19)))
  ·exact Sa
 ·intro L A w hL F H
  have F := F.tq [(4, uN ((x <<< 45) ||| (x >>> 19)))] rfl
  refine hK2 _ _ (wp_ret ?_)
  try dsimp only [Exit.then, Exit.inBlock, Exit.jump, Exit.noGoto]
  refine ret1 F Tryz.results92 (res_tmp F rfl) ⟨?_, H.below⟩
  rfl
open Sx in
theorem rxstep_c (s : St) (w0 : World) : Calls Tryz.prog 66 #[.agg #[uN s.a, uN s.b, uN s.c, uN s.d]] w0 fun e w' => e = .returned (.agg #[iU ((Xo.step s).a.toNat), iU ((Xo.step s).b.toNat), iU ((Xo.step s).c.toNat), iU ((Xo.step s).d.toNat)]) ∧ Below w0.heap.size w0 w' := by
 refine En Tryz.func66 Tryz.ntmps66 fun A F => ?_
 have H := Sx.Own.start w0
 refine Sp fun _ kk => Zb F (d_box F H rfl rfl [uN s.a, uN s.b, uN s.c, uN s.d] rfl) fun g1 A w F H => ?_
 refine Zb F (d_alloc H rfl [iU 0, iU 0, iU 0, iU 0] zero_23) fun g2 A w F H => ?_
 refine Nl kk (Sp fun _ kk => Zv F (d_iaddr (v := pT g1 0) F rfl rfl rfl (by kernel_rfl)) fun A F => ?_)
 iterate 2 (refine Av F ?_; intro A F)
 refine Nl kk (Sp fun _ kk => Zv F (d_iaddr (v := pT g1 1) F rfl rfl rfl (by kernel_rfl)) fun A F => ?_)
 iterate 2 (refine Av F ?_; intro A F)
 refine Nl kk (Sp fun _ kk => Zv F (d_iaddr (v := pT g1 2) F rfl rfl rfl (by kernel_rfl)) fun A F => ?_)
 iterate 2 (refine Av F ?_; intro A F)
 refine Nl kk (Sp fun _ kk => Zv F (d_iaddr (v := pT g1 3) F rfl rfl rfl (by kernel_rfl)) fun A F => ?_)
 iterate 2 (refine Av F ?_; intro A F)
 refine Nl kk (Sp fun _ kk => Av F fun A F => ?_)
 refine Zv F (Bn (uN (s.b <<< 17)) F rfl rfl rfl (i_shl64 s.b 17 (by decide) _)) fun A F => ?_
 refine Av F fun A F => ?_
 refine Nl kk (Sp fun _ kk => ?_)
 iterate 2 (refine Av F ?_; intro A F)
 refine Zv F (Bn (uN (s.c ^^^ s.a)) F rfl rfl rfl (i_xor64 s.c s.a)) fun A F => ?_
 refine Av F fun A F => ?_
 refine Nl kk (Sp fun _ kk => ?_)
 iterate 2 (refine Av F ?_; intro A F)
 refine Zv F (Bn (uN (s.d ^^^ s.b)) F rfl rfl rfl (i_xor64 s.d s.b)) fun A F => ?_
 refine Av F fun A F => ?_
 refine Nl kk (Sp fun _ kk => ?_)
 iterate 2 (refine Av F ?_; intro A F)
 refine Zv F (Bn (uN (s.b ^^^ (s.c ^^^ s.a))) F rfl rfl rfl (i_xor64 s.b (s.c ^^^ s.a))) fun A F => ?_
 refine Av F fun A F => ?_
 refine Nl kk (Sp fun _ kk => ?_)
 iterate 2 (refine Av F ?_; intro A F)
 refine Zv F (Bn (uN (s.a ^^^ (s.d ^^^ s.b))) F rfl rfl rfl (i_xor64 s.a (s.d ^^^ s.b))) fun A F => ?_
 refine Av F fun A F => ?_
 refine Nl kk (Sp fun _ kk => ?_)
 iterate 2 (refine Av F ?_; intro A F)
 refine Zv F (Bn (uN ((s.c ^^^ s.a) ^^^ (s.b <<< 17))) F rfl rfl rfl (i_xor64 (s.c ^^^ s.a) (s.b <<< 17))) fun A F => ?_
 refine Av F fun A F => ?_
 refine Nl kk (Sp fun _ kk => Av F fun A F => ?_)
 refine Zw F (Dc if_92 F H (rturn45_c (s.d ^^^ s.b) _)) fun A w F H => ?_
 refine Av F fun A F => ?_
 refine Nl kk (Sp fun _ kk => ?_)
 iterate 4 (refine Av F ?_; intro A F)
 refine Zv F (d_build (qs := #[(0, uN (s.a ^^^ (s.d ^^^ s.b))), (1, uN (s.b ^^^ (s.c ^^^ s.a))), (2, uN ((s.c ^^^ s.a) ^^^ (s.b <<< 17))), (3, uN (Xo.rotl (s.d ^^^ s.b) 45))]) (v := .agg #[uN (s.a ^^^ (s.d ^^^ s.b)), uN (s.b ^^^ (s.c ^^^ s.a)), uN ((s.c ^^^ s.a) ^^^ (s.b <<< 17)), uN (Xo.rotl (s.d ^^^ s.b) 45)]) F rfl rfl (by kernel_rfl)) fun A F => ?_
 refine Zs 0 [uN (s.a ^^^ (s.d ^^^ s.b)), uN (s.b ^^^ (s.c ^^^ s.a)), uN ((s.c ^^^ s.a) ^^^ (s.b <<< 17)), uN (Xo.rotl (s.d ^^^ s.b) 45)] sz_23 F H fun A w F H => ?_
 refine Nl kk (wp_ret ?_)
 try dsimp only [Exit.then, Exit.inBlock, Exit.jump, Exit.noGoto]
 refine ret1 F Tryz.results66 (res_row (i := 0) (xs := [uN (s.a ^^^ (s.d ^^^ s.b)), uN (s.b ^^^ (s.c ^^^ s.a)), uN ((s.c ^^^ s.a) ^^^ (s.b <<< 17)), uN (Xo.rotl (s.d ^^^ s.b) 45)]) rw_23 F H rfl rfl rfl rfl) ⟨?_, H.below⟩
 rfl
open Sx in
theorem rxadd_c (s t : St) (w0 : World) : Calls Tryz.prog 67 #[.agg #[uN s.a, uN s.b, uN s.c, uN s.d], .agg #[uN t.a, uN t.b, uN t.c, uN t.d]] w0 fun e w' => e = .returned (.agg #[iU ((Xo.add s t).a.toNat), iU ((Xo.add s t).b.toNat), iU ((Xo.add s t).c.toNat), iU ((Xo.add s t).d.toNat)]) ∧ Below w0.heap.size w0 w' := by
 refine En Tryz.func67 Tryz.ntmps67 fun A F => ?_
 have H := Sx.Own.start w0
 refine Sp fun _ kk => Zb F (d_box F H rfl rfl [uN s.a, uN s.b, uN s.c, uN s.d] rfl) fun g1 A w F H => ?_
 refine Zb F (d_box F H rfl rfl [uN t.a, uN t.b, uN t.c, uN t.d] rfl) fun g2 A w F H => ?_
 refine Zb F (d_alloc H rfl [iU 0, iU 0, iU 0, iU 0] zero_23) fun g3 A w F H => ?_
 refine Nl kk (Sp fun _ kk => Zv F (d_iaddr (v := pT g1 0) F rfl rfl rfl (by kernel_rfl)) fun A F => ?_)
 refine Av F fun A F => ?_
 refine Zv F (d_iaddr (v := pT g2 0) F rfl rfl rfl (by kernel_rfl)) fun A F => ?_
 refine Av F fun A F => ?_
 refine Zv F (Bn (uN (s.a ^^^ t.a)) F rfl rfl rfl (i_xor64 s.a t.a)) fun A F => ?_
 refine Zv F (d_iaddr (v := pT g1 1) F rfl rfl rfl (by kernel_rfl)) fun A F => ?_
 refine Av F fun A F => ?_
 refine Zv F (d_iaddr (v := pT g2 1) F rfl rfl rfl (by kernel_rfl)) fun A F => ?_
 refine Av F fun A F => ?_
 refine Zv F (Bn (uN (s.b ^^^ t.b)) F rfl rfl rfl (i_xor64 s.b t.b)) fun A F => ?_
 refine Zv F (d_iaddr (v := pT g1 2) F rfl rfl rfl (by kernel_rfl)) fun A F => ?_
 refine Av F fun A F => ?_
 refine Zv F (d_iaddr (v := pT g2 2) F rfl rfl rfl (by kernel_rfl)) fun A F => ?_
 refine Av F fun A F => ?_
 refine Zv F (Bn (uN (s.c ^^^ t.c)) F rfl rfl rfl (i_xor64 s.c t.c)) fun A F => ?_
 refine Zv F (d_iaddr (v := pT g1 3) F rfl rfl rfl (by kernel_rfl)) fun A F => ?_
 refine Av F fun A F => ?_
 refine Zv F (d_iaddr (v := pT g2 3) F rfl rfl rfl (by kernel_rfl)) fun A F => ?_
 refine Av F fun A F => ?_
 refine Zv F (Bn (uN (s.d ^^^ t.d)) F rfl rfl rfl (i_xor64 s.d t.d)) fun A F => ?_
 refine Zv F (d_build (qs := #[(0, uN (s.a ^^^ t.a)), (1, uN (s.b ^^^ t.b)), (2, uN (s.c ^^^ t.c)), (3, uN (s.d ^^^ t.d))]) (v := .agg #[uN (s.a ^^^ t.a), uN (s.b ^^^ t.b), uN (s.c ^^^ t.c), uN (s.d ^^^ t.d)]) F rfl rfl (by kernel_rfl)) fun A F => ?_
 refine Zs 0 [uN (s.a ^^^ t.a), uN (s.b ^^^ t.b), uN (s.c ^^^ t.c), uN (s.d ^^^ t.d)] sz_23 F H fun A w F H => ?_
 refine Nl kk (wp_ret ?_)
 try dsimp only [Exit.then, Exit.inBlock, Exit.jump, Exit.noGoto]
 refine ret1 F Tryz.results67 (res_row (i := 0) (xs := [uN (s.a ^^^ t.a), uN (s.b ^^^ t.b), uN (s.c ^^^ t.c), uN (s.d ^^^ t.d)]) rw_23 F H rfl rfl rfl rfl) ⟨?_, H.below⟩
 rfl
set_option maxHeartbeats 1000000 in
open Sx in
theorem mone_c  (w0 : World) : Calls Tryz.prog 33 #[] w0 fun e w' => e = .returned (.agg (Mt.cells (fun i => Xo.step (Xj.bas i))).toArray) ∧ Below w0.heap.size w0 w' := by
 refine En Tryz.func33 Tryz.ntmps33 fun A F => ?_
 have H := Sx.Own.start w0
 refine Sp fun _ kk => Zb F (d_alloc H rfl (Mt.cells (fun _ => Xo.zero)) Mt.zeroM) fun g1 A w F H => ?_
 refine Nl kk (Sp fun _ kk => Zv F (d_build (qs := #[]) (v := .agg (Mt.cells (fun _ => Xo.zero)).toArray) F rfl rfl (Mt.buildM _)) fun A F => ?_)
 refine Zb F (d_alloc H rfl (Mt.cells (fun _ => Xo.zero)) Mt.zeroM) fun g2 A w F H => ?_
 refine Zt F (d_store (i := 0) (xs := (Mt.cells (fun _ => Xo.zero))) (us := (Mt.cells (fun _ => Xo.zero))) sz_102 F H rfl rfl rfl rfl (Mt.len _) (Mt.ones _) rfl (by rw [Mt.len]; decide) (Mt.splice_all _ _)) fun A w F (H : Sx.Own w0 _ [(true, g2, (Mt.cells (fun _ => Xo.zero))), (true, g1, (Mt.cells (fun _ => Xo.zero)))] []) => ?_
 refine Nl kk (Sx.seq fun K3 hK3 => Sp fun _ kk => Av F fun A F => ?_)
 refine Nl kk (wp_block ?_)
 have hf0 := Mt.fill_zero (fun i => Xo.step (Xj.bas i))
 rw [← hf0] at H
 refine loop (fun q A w => ∃ (i : Nat), q = 256 - i ∧ i ≤ 256 ∧ Fr 21 A [(0, pT g1 0), (1, pT g2 0), (2, iI i)] ∧ Sx.Own w0 w [(true, g2, (Mt.cells (Mt.fill (fun i => Xo.step (Xj.bas i)) i))), (true, g1, (Mt.cells (Mt.fill (fun i => Xo.step (Xj.bas i)) 0)))] []) (256 - 0) ⟨0, rfl, Nat.zero_le _, F.to ⟨rfl, rfl, rfl, trivial⟩, H⟩ ?_
 rintro q A w ⟨i, rfl, hi_i, F, H⟩
 by_cases hlt_i : i < 256
 ·skip
  refine Sx.seq fun K5 hK5 => Sp fun _ kk => Av F fun A F => ?_
  refine Zv F (Bn bT F rfl rfl rfl (i_lt (decide_eq_true (by omega)))) fun A F => ?_
  refine Nl kk (condT F rfl (wp_skip (hK5 _ _ (Sx.seq fun K7 hK7 => wp_block (Sp fun _ kk => Zv F (d_build (qs := #[]) (v := .agg #[iU 0, iU 0, iU 0, iU 0]) F rfl rfl (by kernel_rfl)) fun A F => ?_)))))
  refine Zb F (d_alloc H rfl [iU 0, iU 0, iU 0, iU 0] zero_23) fun g3 A w F H => ?_
  refine Zt F (d_store (i := 0) (xs := [iU 0, iU 0, iU 0, iU 0]) (us := [iU 0, iU 0, iU 0, iU 0]) sz_23 F H rfl rfl rfl rfl rfl rfl rfl (Nat.le_of_ble_eq_true rfl) rfl) fun A w F (H : Sx.Own w0 _ [(true, g3, [iU 0, iU 0, iU 0, iU 0]), (true, g2, (Mt.cells (Mt.fill (fun i => Xo.step (Xj.bas i)) i))), (true, g1, (Mt.cells (Mt.fill (fun i => Xo.step (Xj.bas i)) 0)))] []) => ?_
  refine Nl kk ?_
  have hq : i / 64 = 0 ∨ i / 64 = 1 ∨ i / 64 = 2 ∨ i / 64 = 3 := by omega
  rcases hq with hq | hq | hq | hq
  ·skip
   refine Sp fun _ kk => Av F fun A F => ?_
   refine Zv F (Bn (iI 0) F rfl rfl rfl (i_quoN hq (by decide) (in_i64 0 (by decide)))) fun A F => ?_
   refine Av F fun A F => ?_
   refine Zv F (Bn (iI (i % 64 : Nat)) F rfl rfl rfl (i_rem rfl (by decide))) fun A F => ?_
   refine Zv F (Bn (iU (1#64 <<< (i % 64)).toNat) F rfl rfl rfl (i_shl64 1#64 (i % 64) (by omega) _)) fun A F => ?_
   refine Zv F (d_iaddr (v := pT g3 0) F rfl rfl rfl (by kernel_rfl)) fun A F => ?_
   refine Zt F (d_store (i := 0) (xs := [uN (1#64 <<< (i % 64))]) (us := [uN (1#64 <<< (i % 64)), iU 0, iU 0, iU 0]) sz_22 F H rfl rfl rfl rfl rfl rfl rfl (Nat.le_of_ble_eq_true rfl) rfl) fun A w F (H : Sx.Own w0 _ [(true, g3, [uN (1#64 <<< (i % 64)), iU 0, iU 0, iU 0]), (true, g2, (Mt.cells (Mt.fill (fun i => Xo.step (Xj.bas i)) i))), (true, g1, (Mt.cells (Mt.fill (fun i => Xo.step (Xj.bas i)) 0)))] []) => ?_
   refine Sx.nil ?_
   have eb : (Xj.bas i) = ⟨1#64 <<< (i % 64), 0#64, 0#64, 0#64⟩ := by unfold Xj.bas; rw [hq]; rfl
   have H : Sx.Own w0 w [(true, g3, [iU ((Xj.bas i).a.toNat), iU ((Xj.bas i).b.toNat), iU ((Xj.bas i).c.toNat), iU ((Xj.bas i).d.toNat)]), (true, g2, (Mt.cells (Mt.fill (fun i => Xo.step (Xj.bas i)) i))), (true, g1, (Mt.cells (Mt.fill (fun i => Xo.step (Xj.bas i)) 0)))] [] := by rw [eb]; exact H
   refine kk _ _ ?_
   refine Sx.plain ?_
   iterate 2 (refine Av F ?_; intro A F)
   refine Zw F (Dc if_66 F H (rxstep_c (Xj.bas i) _)) fun A w F H => ?_
   refine Zv F (d_iaddr (v := .pointer (some ⟨g2, i * 4, none⟩)) F rfl rfl rfl (Mt.ixM g2 i (by omega) _)) fun A F => ?_
   refine Zt F (d_store (i := 1) (xs := Mt.row (Xo.step (Xj.bas i))) (us := (Mt.cells (Mt.upd (Mt.fill (fun i => Xo.step (Xj.bas i)) i) i (Xo.step (Xj.bas i))))) sz_23 F H rfl rfl rfl rfl rfl rfl rfl (by rw [Mt.len]; show i * 4 + 4 ≤ 1024; omega) (Mt.splice _ _ (by omega))) fun A w F (H : Sx.Own w0 _ [(true, g3, [iU ((Xj.bas i).a.toNat), iU ((Xj.bas i).b.toNat), iU ((Xj.bas i).c.toNat), iU ((Xj.bas i).d.toNat)]), (true, g2, (Mt.cells (Mt.upd (Mt.fill (fun i => Xo.step (Xj.bas i)) i) i (Xo.step (Xj.bas i))))), (true, g1, (Mt.cells (Mt.fill (fun i => Xo.step (Xj.bas i)) 0)))] []) => ?_
   refine Sx.nil (hK7 _ _ (Sx.plain ?_))
   refine Av F fun A F => ?_
   refine Zv F (Bn (iI (i + 1 : Nat)) F rfl rfl rfl (i_addN rfl (in_i64 _ (by omega)))) fun A F => ?_
   refine Av F fun A F => ?_
   refine Sx.nil ?_
   try dsimp only [Exit.then, Exit.noGoto]
   exact ⟨256 - (i + 1), by omega, i + 1, rfl, by omega, F.to ⟨rfl, rfl, rfl, trivial⟩, by rw [← Mt.fill_upd]; exact H.to' [1, 2] [] (by decide) (by decide) rfl rfl⟩
  ·skip
   refine Sp fun _ kk => Av F fun A F => ?_
   refine Zv F (Bn (iI 1) F rfl rfl rfl (i_quoN hq (by decide) (in_i64 1 (by decide)))) fun A F => ?_
   refine Av F fun A F => ?_
   refine Zv F (Bn (iI (i % 64 : Nat)) F rfl rfl rfl (i_rem rfl (by decide))) fun A F => ?_
   refine Zv F (Bn (iU (1#64 <<< (i % 64)).toNat) F rfl rfl rfl (i_shl64 1#64 (i % 64) (by omega) _)) fun A F => ?_
   refine Zv F (d_iaddr (v := pT g3 1) F rfl rfl rfl (by kernel_rfl)) fun A F => ?_
   refine Zt F (d_store (i := 0) (xs := [uN (1#64 <<< (i % 64))]) (us := [iU 0, uN (1#64 <<< (i % 64)), iU 0, iU 0]) sz_22 F H rfl rfl rfl rfl rfl rfl rfl (Nat.le_of_ble_eq_true rfl) rfl) fun A w F (H : Sx.Own w0 _ [(true, g3, [iU 0, uN (1#64 <<< (i % 64)), iU 0, iU 0]), (true, g2, (Mt.cells (Mt.fill (fun i => Xo.step (Xj.bas i)) i))), (true, g1, (Mt.cells (Mt.fill (fun i => Xo.step (Xj.bas i)) 0)))] []) => ?_
   refine Sx.nil ?_
   have eb : (Xj.bas i) = ⟨0#64, 1#64 <<< (i % 64), 0#64, 0#64⟩ := by unfold Xj.bas; rw [hq]; rfl
   have H : Sx.Own w0 w [(true, g3, [iU ((Xj.bas i).a.toNat), iU ((Xj.bas i).b.toNat), iU ((Xj.bas i).c.toNat), iU ((Xj.bas i).d.toNat)]), (true, g2, (Mt.cells (Mt.fill (fun i => Xo.step (Xj.bas i)) i))), (true, g1, (Mt.cells (Mt.fill (fun i => Xo.step (Xj.bas i)) 0)))] [] := by rw [eb]; exact H
   refine kk _ _ ?_
   refine Sx.plain ?_
   iterate 2 (refine Av F ?_; intro A F)
   refine Zw F (Dc if_66 F H (rxstep_c (Xj.bas i) _)) fun A w F H => ?_
   refine Zv F (d_iaddr (v := .pointer (some ⟨g2, i * 4, none⟩)) F rfl rfl rfl (Mt.ixM g2 i (by omega) _)) fun A F => ?_
   refine Zt F (d_store (i := 1) (xs := Mt.row (Xo.step (Xj.bas i))) (us := (Mt.cells (Mt.upd (Mt.fill (fun i => Xo.step (Xj.bas i)) i) i (Xo.step (Xj.bas i))))) sz_23 F H rfl rfl rfl rfl rfl rfl rfl (by rw [Mt.len]; show i * 4 + 4 ≤ 1024; omega) (Mt.splice _ _ (by omega))) fun A w F (H : Sx.Own w0 _ [(true, g3, [iU ((Xj.bas i).a.toNat), iU ((Xj.bas i).b.toNat), iU ((Xj.bas i).c.toNat), iU ((Xj.bas i).d.toNat)]), (true, g2, (Mt.cells (Mt.upd (Mt.fill (fun i => Xo.step (Xj.bas i)) i) i (Xo.step (Xj.bas i))))), (true, g1, (Mt.cells (Mt.fill (fun i => Xo.step (Xj.bas i)) 0)))] []) => ?_
   refine Sx.nil (hK7 _ _ (Sx.plain ?_))
   refine Av F fun A F => ?_
   refine Zv F (Bn (iI (i + 1 : Nat)) F rfl rfl rfl (i_addN rfl (in_i64 _ (by omega)))) fun A F => ?_
   refine Av F fun A F => ?_
   refine Sx.nil ?_
   try dsimp only [Exit.then, Exit.noGoto]
   exact ⟨256 - (i + 1), by omega, i + 1, rfl, by omega, F.to ⟨rfl, rfl, rfl, trivial⟩, by rw [← Mt.fill_upd]; exact H.to' [1, 2] [] (by decide) (by decide) rfl rfl⟩
  ·skip
   refine Sp fun _ kk => Av F fun A F => ?_
   refine Zv F (Bn (iI 2) F rfl rfl rfl (i_quoN hq (by decide) (in_i64 2 (by decide)))) fun A F => ?_
   refine Av F fun A F => ?_
   refine Zv F (Bn (iI (i % 64 : Nat)) F rfl rfl rfl (i_rem rfl (by decide))) fun A F => ?_
   refine Zv F (Bn (iU (1#64 <<< (i % 64)).toNat) F rfl rfl rfl (i_shl64 1#64 (i % 64) (by omega) _)) fun A F => ?_
   refine Zv F (d_iaddr (v := pT g3 2) F rfl rfl rfl (by kernel_rfl)) fun A F => ?_
   refine Zt F (d_store (i := 0) (xs := [uN (1#64 <<< (i % 64))]) (us := [iU 0, iU 0, uN (1#64 <<< (i % 64)), iU 0]) sz_22 F H rfl rfl rfl rfl rfl rfl rfl (Nat.le_of_ble_eq_true rfl) rfl) fun A w F (H : Sx.Own w0 _ [(true, g3, [iU 0, iU 0, uN (1#64 <<< (i % 64)), iU 0]), (true, g2, (Mt.cells (Mt.fill (fun i => Xo.step (Xj.bas i)) i))), (true, g1, (Mt.cells (Mt.fill (fun i => Xo.step (Xj.bas i)) 0)))] []) => ?_
   refine Sx.nil ?_
   have eb : (Xj.bas i) = ⟨0#64, 0#64, 1#64 <<< (i % 64), 0#64⟩ := by unfold Xj.bas; rw [hq]; rfl
   have H : Sx.Own w0 w [(true, g3, [iU ((Xj.bas i).a.toNat), iU ((Xj.bas i).b.toNat), iU ((Xj.bas i).c.toNat), iU ((Xj.bas i).d.toNat)]), (true, g2, (Mt.cells (Mt.fill (fun i => Xo.step (Xj.bas i)) i))), (true, g1, (Mt.cells (Mt.fill (fun i => Xo.step (Xj.bas i)) 0)))] [] := by rw [eb]; exact H
   refine kk _ _ ?_
   refine Sx.plain ?_
   iterate 2 (refine Av F ?_; intro A F)
   refine Zw F (Dc if_66 F H (rxstep_c (Xj.bas i) _)) fun A w F H => ?_
   refine Zv F (d_iaddr (v := .pointer (some ⟨g2, i * 4, none⟩)) F rfl rfl rfl (Mt.ixM g2 i (by omega) _)) fun A F => ?_
   refine Zt F (d_store (i := 1) (xs := Mt.row (Xo.step (Xj.bas i))) (us := (Mt.cells (Mt.upd (Mt.fill (fun i => Xo.step (Xj.bas i)) i) i (Xo.step (Xj.bas i))))) sz_23 F H rfl rfl rfl rfl rfl rfl rfl (by rw [Mt.len]; show i * 4 + 4 ≤ 1024; omega) (Mt.splice _ _ (by omega))) fun A w F (H : Sx.Own w0 _ [(true, g3, [iU ((Xj.bas i).a.toNat), iU ((Xj.bas i).b.toNat), iU ((Xj.bas i).c.toNat), iU ((Xj.bas i).d.toNat)]), (true, g2, (Mt.cells (Mt.upd (Mt.fill (fun i => Xo.step (Xj.bas i)) i) i (Xo.step (Xj.bas i))))), (true, g1, (Mt.cells (Mt.fill (fun i => Xo.step (Xj.bas i)) 0)))] []) => ?_
   refine Sx.nil (hK7 _ _ (Sx.plain ?_))
   refine Av F fun A F => ?_
   refine Zv F (Bn (iI (i + 1 : Nat)) F rfl rfl rfl (i_addN rfl (in_i64 _ (by omega)))) fun A F => ?_
   refine Av F fun A F => ?_
   refine Sx.nil ?_
   try dsimp only [Exit.then, Exit.noGoto]
   exact ⟨256 - (i + 1), by omega, i + 1, rfl, by omega, F.to ⟨rfl, rfl, rfl, trivial⟩, by rw [← Mt.fill_upd]; exact H.to' [1, 2] [] (by decide) (by decide) rfl rfl⟩
  ·skip
   refine Sp fun _ kk => Av F fun A F => ?_
   refine Zv F (Bn (iI 3) F rfl rfl rfl (i_quoN hq (by decide) (in_i64 3 (by decide)))) fun A F => ?_
   refine Av F fun A F => ?_
   refine Zv F (Bn (iI (i % 64 : Nat)) F rfl rfl rfl (i_rem rfl (by decide))) fun A F => ?_
   refine Zv F (Bn (iU (1#64 <<< (i % 64)).toNat) F rfl rfl rfl (i_shl64 1#64 (i % 64) (by omega) _)) fun A F => ?_
   refine Zv F (d_iaddr (v := pT g3 3) F rfl rfl rfl (by kernel_rfl)) fun A F => ?_
   refine Zt F (d_store (i := 0) (xs := [uN (1#64 <<< (i % 64))]) (us := [iU 0, iU 0, iU 0, uN (1#64 <<< (i % 64))]) sz_22 F H rfl rfl rfl rfl rfl rfl rfl (Nat.le_of_ble_eq_true rfl) rfl) fun A w F (H : Sx.Own w0 _ [(true, g3, [iU 0, iU 0, iU 0, uN (1#64 <<< (i % 64))]), (true, g2, (Mt.cells (Mt.fill (fun i => Xo.step (Xj.bas i)) i))), (true, g1, (Mt.cells (Mt.fill (fun i => Xo.step (Xj.bas i)) 0)))] []) => ?_
   refine Sx.nil ?_
   have eb : (Xj.bas i) = ⟨0#64, 0#64, 0#64, 1#64 <<< (i % 64)⟩ := by unfold Xj.bas; rw [hq]; rfl
   have H : Sx.Own w0 w [(true, g3, [iU ((Xj.bas i).a.toNat), iU ((Xj.bas i).b.toNat), iU ((Xj.bas i).c.toNat), iU ((Xj.bas i).d.toNat)]), (true, g2, (Mt.cells (Mt.fill (fun i => Xo.step (Xj.bas i)) i))), (true, g1, (Mt.cells (Mt.fill (fun i => Xo.step (Xj.bas i)) 0)))] [] := by rw [eb]; exact H
   refine kk _ _ ?_
   refine Sx.plain ?_
   iterate 2 (refine Av F ?_; intro A F)
   refine Zw F (Dc if_66 F H (rxstep_c (Xj.bas i) _)) fun A w F H => ?_
   refine Zv F (d_iaddr (v := .pointer (some ⟨g2, i * 4, none⟩)) F rfl rfl rfl (Mt.ixM g2 i (by omega) _)) fun A F => ?_
   refine Zt F (d_store (i := 1) (xs := Mt.row (Xo.step (Xj.bas i))) (us := (Mt.cells (Mt.upd (Mt.fill (fun i => Xo.step (Xj.bas i)) i) i (Xo.step (Xj.bas i))))) sz_23 F H rfl rfl rfl rfl rfl rfl rfl (by rw [Mt.len]; show i * 4 + 4 ≤ 1024; omega) (Mt.splice _ _ (by omega))) fun A w F (H : Sx.Own w0 _ [(true, g3, [iU ((Xj.bas i).a.toNat), iU ((Xj.bas i).b.toNat), iU ((Xj.bas i).c.toNat), iU ((Xj.bas i).d.toNat)]), (true, g2, (Mt.cells (Mt.upd (Mt.fill (fun i => Xo.step (Xj.bas i)) i) i (Xo.step (Xj.bas i))))), (true, g1, (Mt.cells (Mt.fill (fun i => Xo.step (Xj.bas i)) 0)))] []) => ?_
   refine Sx.nil (hK7 _ _ (Sx.plain ?_))
   refine Av F fun A F => ?_
   refine Zv F (Bn (iI (i + 1 : Nat)) F rfl rfl rfl (i_addN rfl (in_i64 _ (by omega)))) fun A F => ?_
   refine Av F fun A F => ?_
   refine Sx.nil ?_
   try dsimp only [Exit.then, Exit.noGoto]
   exact ⟨256 - (i + 1), by omega, i + 1, rfl, by omega, F.to ⟨rfl, rfl, rfl, trivial⟩, by rw [← Mt.fill_upd]; exact H.to' [1, 2] [] (by decide) (by decide) rfl rfl⟩
 ·have hie_i : i = 256 := by omega
  rw [hie_i] at F
  try rw [hie_i] at H
  refine Sx.seq fun K13 hK13 => Sp fun _ kk => ?_
  iterate 2 (refine Av F ?_; intro A F)
  refine Nl kk (condF F rfl (wp_exit ?_))
  try dsimp only [Exit.then, Exit.jump, Exit.noGoto]
  refine exit_here (hK3 _ _ (Sp fun _ kk => Zv F (d_load (i := 0) (xs := (Mt.cells (Mt.fill (fun i => Xo.step (Xj.bas i)) 256))) rw_102 F H rfl rfl rfl (Mt.all _) (Mt.len _)) fun A F => ?_))
  refine Zt F (d_store (i := 1) (xs := (Mt.cells (Mt.fill (fun i => Xo.step (Xj.bas i)) 256))) (us := (Mt.cells (Mt.fill (fun i => Xo.step (Xj.bas i)) 256))) sz_102 F H rfl rfl rfl rfl (Mt.len _) (Mt.ones _) rfl (by rw [Mt.len]; decide) (Mt.splice_all _ _)) fun A w F (H : Sx.Own w0 _ [(true, g2, (Mt.cells (Mt.fill (fun i => Xo.step (Xj.bas i)) 256))), (true, g1, (Mt.cells (Mt.fill (fun i => Xo.step (Xj.bas i)) 256)))] []) => ?_
  refine Nl kk (Wr (ret1 F Tryz.results33 (res_row (i := 1) (xs := (Mt.cells (Mt.fill (fun i => Xo.step (Xj.bas i)) 256))) rw_102 F H rfl rfl (Mt.all _) (Mt.len _)) ?_))
  rw [Mt.fill_all]
  exact ⟨rfl, H.below⟩
theorem Mt.bit_num (x : BitVec 64) (k : Nat) : (((x >>> k % 2#64).toNat : Int) == 1) = x.toNat.testBit k := by
  rw [BitVec.toNat_umod, BitVec.toNat_ushiftRight, show (2#64).toNat = 2 from rfl, Nat.testBit, Nat.one_and_eq_mod_two]
  generalize x.toNat >>> k = m
  have : m % 2 = 0 ∨ m % 2 = 1 := by omega
  rcases this with e | e <;> rw [e] <;> rfl
set_option maxHeartbeats 1000000 in
open Sx in
theorem mof_c (m : Nat) (f : Nat → St) (s : St) (w0 : World) (hm : Mt.At w0 m f) : Calls Tryz.prog 35 #[pT m 0, .agg #[uN s.a, uN s.b, uN s.c, uN s.d]] w0 fun e w' => e = .returned (.agg #[iU ((Xj.comb f s 256).a.toNat), iU ((Xj.comb f s 256).b.toNat), iU ((Xj.comb f s 256).c.toNat), iU ((Xj.comb f s 256).d.toNat)]) ∧ Below w0.heap.size w0 w' := by
 refine En Tryz.func35 Tryz.ntmps35 fun A F => ?_
 have H := Sx.Own.start w0
 refine Sp fun _ kk => Zb F (d_box F H rfl rfl [uN s.a, uN s.b, uN s.c, uN s.d] rfl) fun g1 A w F H => ?_
 refine Zb F (d_alloc H rfl [iU 0, iU 0, iU 0, iU 0] zero_23) fun g2 A w F H => ?_
 refine Nl kk (Sp fun _ kk => Zv F (d_build (qs := #[]) (v := .agg #[iU 0, iU 0, iU 0, iU 0]) F rfl rfl (by kernel_rfl)) fun A F => ?_)
 refine Zb F (d_alloc H rfl [iU 0, iU 0, iU 0, iU 0] zero_23) fun g3 A w F H => ?_
 refine Zt F (d_store (i := 0) (xs := [iU 0, iU 0, iU 0, iU 0]) (us := [iU 0, iU 0, iU 0, iU 0]) sz_23 F H rfl rfl rfl rfl rfl rfl rfl (Nat.le_of_ble_eq_true rfl) rfl) fun A w F (H : Sx.Own w0 _ [(true, g3, [iU 0, iU 0, iU 0, iU 0]), (true, g2, [iU 0, iU 0, iU 0, iU 0]), (true, g1, [uN s.a, uN s.b, uN s.c, uN s.d])] []) => ?_
 refine Nl kk (Sx.seq fun K3 hK3 => Sp fun _ kk => Av F fun A F => ?_)
 refine Nl kk (wp_block (loop (fun q A w => ∃ (i : Nat), q = 256 - i ∧ i ≤ 256 ∧ Fr 29 A [(0, pT m 0), (3, pT g1 0), (4, pT g2 0), (5, pT g3 0), (6, iI i)] ∧ Sx.Own w0 w [(true, g1, [uN s.a, uN s.b, uN s.c, uN s.d]), (true, g3, [iU ((Xj.comb f s i).a.toNat), iU ((Xj.comb f s i).b.toNat), iU ((Xj.comb f s i).c.toNat), iU ((Xj.comb f s i).d.toNat)]), (true, g2, [uN Xo.zero.a, uN Xo.zero.b, uN Xo.zero.c, uN Xo.zero.d])] []) (256 - 0) ⟨0, rfl, Nat.zero_le _, F.to ⟨rfl, rfl, rfl, rfl, rfl, trivial⟩, H.to' [2, 0, 1] [] (by decide) (by decide) rfl rfl⟩ ?_))
 rintro q A w ⟨i, rfl, hi_i, F, H⟩
 by_cases hlt_i : i < 256
 ·skip
  refine Sx.seq fun K5 hK5 => Sp fun _ kk => Av F fun A F => ?_
  refine Zv F (Bn bT F rfl rfl rfl (i_lt (decide_eq_true (by omega)))) fun A F => ?_
  refine Nl kk (condT F rfl (wp_skip (hK5 _ _ ?_)))
  have hq : i / 64 = 0 ∨ i / 64 = 1 ∨ i / 64 = 2 ∨ i / 64 = 3 := by omega
  rcases hq with hq | hq | hq | hq
  ·skip
   have hbt : Xj.bit s i = s.a.toNat.testBit (i % 64) := by unfold Xj.bit Xj.wrd; rw [hq]; rfl
   have hbn := Mt.bit_num s.a (i % 64)
   cases hb : Xj.bit s i
   ·have hv : Xj.comb f s (i + 1) = Xj.comb f s i := if_neg (by rw [hb]; decide)
    refine Sx.seq fun K7 hK7 => wp_block (Sp fun _ kk => Av F fun A F => ?_)
    refine Zv F (Bn (iI 0) F rfl rfl rfl (i_quoN hq (by decide) (in_i64 0 (by decide)))) fun A F => ?_
    refine Zv F (d_iaddr (v := pT g1 0) F rfl rfl rfl (by kernel_rfl)) fun A F => ?_
    iterate 2 (refine Av F ?_; intro A F)
    refine Zv F (Bn (iI (i % 64 : Nat)) F rfl rfl rfl (i_rem rfl (by decide))) fun A F => ?_
    refine Zv F (Bn (iU (s.a >>> (i % 64)).toNat) F rfl rfl rfl (i_shr64 s.a (i % 64) (by omega) _)) fun A F => ?_
    refine Zv F (Bn (uN ((s.a >>> (i % 64)) % 2#64)) F rfl rfl rfl (i_rem64 (s.a >>> (i % 64)) 2#64 (by decide))) fun A F => ?_
    refine Zv F (Bn bF F rfl rfl rfl (i_eq (by rw [hbn, ← hbt, hb]))) fun A F => ?_
    refine Nl kk (condF F rfl (wp_skip (hK7 _ _ (Sx.plain ?_))))
    refine Av F fun A F => ?_
    refine Zv F (Bn (iI (i + 1 : Nat)) F rfl rfl rfl (i_addN rfl (in_i64 _ (by omega)))) fun A F => ?_
    refine Av F fun A F => ?_
    refine Sx.nil ?_
    try dsimp only [Exit.then, Exit.noGoto]
    exact ⟨256 - (i + 1), by omega, i + 1, rfl, by omega, F.to ⟨rfl, rfl, rfl, rfl, rfl, trivial⟩, by rw [hv]; exact H⟩
   ·have hv : Xj.comb f s (i + 1) = Xo.add (Xj.comb f s i) (f i) := if_pos hb
    refine Sx.seq fun K9 hK9 => wp_block (Sp fun _ kk => Av F fun A F => ?_)
    refine Zv F (Bn (iI 0) F rfl rfl rfl (i_quoN hq (by decide) (in_i64 0 (by decide)))) fun A F => ?_
    refine Zv F (d_iaddr (v := pT g1 0) F rfl rfl rfl (by kernel_rfl)) fun A F => ?_
    iterate 2 (refine Av F ?_; intro A F)
    refine Zv F (Bn (iI (i % 64 : Nat)) F rfl rfl rfl (i_rem rfl (by decide))) fun A F => ?_
    refine Zv F (Bn (iU (s.a >>> (i % 64)).toNat) F rfl rfl rfl (i_shr64 s.a (i % 64) (by omega) _)) fun A F => ?_
    refine Zv F (Bn (uN ((s.a >>> (i % 64)) % 2#64)) F rfl rfl rfl (i_rem64 (s.a >>> (i % 64)) 2#64 (by decide))) fun A F => ?_
    refine Zv F (Bn bT F rfl rfl rfl (i_eq (by rw [hbn, ← hbt, hb]))) fun A F => ?_
    refine Nl kk (condT F rfl ?_)
    have F := F.tq [(0, pT m 0), (3, pT g1 0), (4, pT g2 0), (5, pT g3 0), (6, iI i), (8, iI i), (9, bT), (12, iI i), (13, iI 0), (14, pT g1 0), (15, uN s.a), (16, iI i), (17, iI (i % 64 : Nat)), (18, uN (s.a >>> (i % 64))), (19, uN ((s.a >>> (i % 64)) % 2#64)), (20, bT)] rfl
    refine Dn F [some (.agg #[iU ((Xj.comb f s i).a.toNat), iU ((Xj.comb f s i).b.toNat), iU ((Xj.comb f s i).c.toNat), iU ((Xj.comb f s i).d.toNat)]), some (pT m 0), some (iI i), some (pT m 0), some (.pointer (some ⟨m, i * 4, none⟩)), some (.agg #[iU ((f i).a.toNat), iU ((f i).b.toNat), iU ((f i).c.toNat), iU ((f i).d.toNat)]), some (.agg #[iU ((Xo.add (Xj.comb f s i) (f i)).a.toNat), iU ((Xo.add (Xj.comb f s i) (f i)).b.toNat), iU ((Xo.add (Xj.comb f s i) (f i)).c.toNat), iU ((Xo.add (Xj.comb f s i) (f i)).d.toNat)]), none] (fun L A w => Sx.Own w0 w [(true, g1, [uN s.a, uN s.b, uN s.c, uN s.d]), (true, g3, (cond (L 7) [iU ((Xo.add (Xj.comb f s i) (f i)).a.toNat), iU ((Xo.add (Xj.comb f s i) (f i)).b.toNat), iU ((Xo.add (Xj.comb f s i) (f i)).c.toNat), iU ((Xo.add (Xj.comb f s i) (f i)).d.toNat)] [iU ((Xj.comb f s i).a.toNat), iU ((Xj.comb f s i).b.toNat), iU ((Xj.comb f s i).c.toNat), iU ((Xj.comb f s i).d.toNat)])), (true, g2, [uN Xo.zero.a, uN Xo.zero.b, uN Xo.zero.c, uN Xo.zero.d])] []) H.drew ?_ ?_
    ·refine ⟨?_, ?_, ?_, ?_, ?_, ?_, ?_, ?_, trivial⟩
     ·intro L A w up hun hd F H
      have f7 : L 7 = false := up 7 0 rfl hun
      have G := H; rw [f7] at G
      refine step_on rfl (Lr 1 [iU ((Xj.comb f s i).a.toNat), iU ((Xj.comb f s i).b.toNat), iU ((Xj.comb f s i).c.toNat), iU ((Xj.comb f s i).d.toNat)] rw_23 F G) ?_
      rintro xv w' ⟨hx, rfl⟩
      exact ⟨Cs hx, H⟩
     ·exact Sa
     ·exact Sa
     ·exact Sa
     ·exact SV (fun _ _ _ F _ => d_iaddr (v := .pointer (some ⟨m, i * 4, none⟩)) F rfl rfl rfl (Mt.ixM m i (by omega) _))
     ·intro L A w up hun hd F H
      have f7 : L 7 = false := up 7 5 rfl hun
      have G := H; rw [f7] at G
      refine step_on rfl (d_loadF4 rw_23 F G rfl rfl (hm.row (i := i) (by omega))) ?_
      rintro xv w' ⟨hx, rfl⟩
      exact ⟨Cs hx, H⟩
     ·intro L A w up hun hd F H
      have f7 : L 7 = false := up 7 6 rfl hun
      rw [f7] at H
      refine step_on rfl (Dc if_67 F H (rxadd_c (Xj.comb f s i) (f i) _)) ?_
      rintro xv w' ⟨hx, H⟩
      exact ⟨Cs hx, (by show Sx.Own _ _ _ _; rw [show Inv.add L 6 7 = false from f7]; exact H)⟩
     ·intro L A w up hun hd F H
      have f7 : L 7 = false := hun
      rw [f7] at H
      refine step_on rfl (d_store (i := 1) (xs := [iU ((Xo.add (Xj.comb f s i) (f i)).a.toNat), iU ((Xo.add (Xj.comb f s i) (f i)).b.toNat), iU ((Xo.add (Xj.comb f s i) (f i)).c.toNat), iU ((Xo.add (Xj.comb f s i) (f i)).d.toNat)]) (us := [iU ((Xo.add (Xj.comb f s i) (f i)).a.toNat), iU ((Xo.add (Xj.comb f s i) (f i)).b.toNat), iU ((Xo.add (Xj.comb f s i) (f i)).c.toNat), iU ((Xo.add (Xj.comb f s i) (f i)).d.toNat)]) sz_23 F H rfl rfl rfl rfl rfl rfl rfl (Nat.le_of_ble_eq_true rfl) rfl) ?_
      intro xv w' H
      exact ⟨Cn, H⟩
    ·intro L A w hL F H
     have t7 : L 7 = true := hL 7 rfl
     rw [t7] at H
     have F := F.tq [(0, pT m 0), (3, pT g1 0), (4, pT g2 0), (5, pT g3 0), (6, iI i), (8, iI i), (9, bT), (12, iI i), (13, iI 0), (14, pT g1 0), (15, uN s.a), (16, iI i), (17, iI (i % 64 : Nat)), (18, uN (s.a >>> (i % 64))), (19, uN ((s.a >>> (i % 64)) % 2#64)), (20, bT)] rfl
     refine hK9 _ _ (Sx.plain ?_)
     refine Av F fun A F => ?_
     refine Zv F (Bn (iI (i + 1 : Nat)) F rfl rfl rfl (i_addN rfl (in_i64 _ (by omega)))) fun A F => ?_
     refine Av F fun A F => ?_
     refine Sx.nil ?_
     try dsimp only [Exit.then, Exit.noGoto]
     exact ⟨256 - (i + 1), by omega, i + 1, rfl, by omega, F.to ⟨rfl, rfl, rfl, rfl, rfl, trivial⟩, by rw [hv]; exact H⟩
  ·skip
   have hbt : Xj.bit s i = s.b.toNat.testBit (i % 64) := by unfold Xj.bit Xj.wrd; rw [hq]; rfl
   have hbn := Mt.bit_num s.b (i % 64)
   cases hb : Xj.bit s i
   ·have hv : Xj.comb f s (i + 1) = Xj.comb f s i := if_neg (by rw [hb]; decide)
    refine Sx.seq fun K11 hK11 => wp_block (Sp fun _ kk => Av F fun A F => ?_)
    refine Zv F (Bn (iI 1) F rfl rfl rfl (i_quoN hq (by decide) (in_i64 1 (by decide)))) fun A F => ?_
    refine Zv F (d_iaddr (v := pT g1 1) F rfl rfl rfl (by kernel_rfl)) fun A F => ?_
    iterate 2 (refine Av F ?_; intro A F)
    refine Zv F (Bn (iI (i % 64 : Nat)) F rfl rfl rfl (i_rem rfl (by decide))) fun A F => ?_
    refine Zv F (Bn (iU (s.b >>> (i % 64)).toNat) F rfl rfl rfl (i_shr64 s.b (i % 64) (by omega) _)) fun A F => ?_
    refine Zv F (Bn (uN ((s.b >>> (i % 64)) % 2#64)) F rfl rfl rfl (i_rem64 (s.b >>> (i % 64)) 2#64 (by decide))) fun A F => ?_
    refine Zv F (Bn bF F rfl rfl rfl (i_eq (by rw [hbn, ← hbt, hb]))) fun A F => ?_
    refine Nl kk (condF F rfl (wp_skip (hK11 _ _ (Sx.plain ?_))))
    refine Av F fun A F => ?_
    refine Zv F (Bn (iI (i + 1 : Nat)) F rfl rfl rfl (i_addN rfl (in_i64 _ (by omega)))) fun A F => ?_
    refine Av F fun A F => ?_
    refine Sx.nil ?_
    try dsimp only [Exit.then, Exit.noGoto]
    exact ⟨256 - (i + 1), by omega, i + 1, rfl, by omega, F.to ⟨rfl, rfl, rfl, rfl, rfl, trivial⟩, by rw [hv]; exact H⟩
   ·have hv : Xj.comb f s (i + 1) = Xo.add (Xj.comb f s i) (f i) := if_pos hb
    refine Sx.seq fun K13 hK13 => wp_block (Sp fun _ kk => Av F fun A F => ?_)
    refine Zv F (Bn (iI 1) F rfl rfl rfl (i_quoN hq (by decide) (in_i64 1 (by decide)))) fun A F => ?_
    refine Zv F (d_iaddr (v := pT g1 1) F rfl rfl rfl (by kernel_rfl)) fun A F => ?_
    iterate 2 (refine Av F ?_; intro A F)
    refine Zv F (Bn (iI (i % 64 : Nat)) F rfl rfl rfl (i_rem rfl (by decide))) fun A F => ?_
    refine Zv F (Bn (iU (s.b >>> (i % 64)).toNat) F rfl rfl rfl (i_shr64 s.b (i % 64) (by omega) _)) fun A F => ?_
    refine Zv F (Bn (uN ((s.b >>> (i % 64)) % 2#64)) F rfl rfl rfl (i_rem64 (s.b >>> (i % 64)) 2#64 (by decide))) fun A F => ?_
    refine Zv F (Bn bT F rfl rfl rfl (i_eq (by rw [hbn, ← hbt, hb]))) fun A F => ?_
    refine Nl kk (condT F rfl ?_)
    have F := F.tq [(0, pT m 0), (3, pT g1 0), (4, pT g2 0), (5, pT g3 0), (6, iI i), (8, iI i), (9, bT), (12, iI i), (13, iI 1), (14, pT g1 1), (15, uN s.b), (16, iI i), (17, iI (i % 64 : Nat)), (18, uN (s.b >>> (i % 64))), (19, uN ((s.b >>> (i % 64)) % 2#64)), (20, bT)] rfl
    refine Dn F [some (.agg #[iU ((Xj.comb f s i).a.toNat), iU ((Xj.comb f s i).b.toNat), iU ((Xj.comb f s i).c.toNat), iU ((Xj.comb f s i).d.toNat)]), some (pT m 0), some (iI i), some (pT m 0), some (.pointer (some ⟨m, i * 4, none⟩)), some (.agg #[iU ((f i).a.toNat), iU ((f i).b.toNat), iU ((f i).c.toNat), iU ((f i).d.toNat)]), some (.agg #[iU ((Xo.add (Xj.comb f s i) (f i)).a.toNat), iU ((Xo.add (Xj.comb f s i) (f i)).b.toNat), iU ((Xo.add (Xj.comb f s i) (f i)).c.toNat), iU ((Xo.add (Xj.comb f s i) (f i)).d.toNat)]), none] (fun L A w => Sx.Own w0 w [(true, g1, [uN s.a, uN s.b, uN s.c, uN s.d]), (true, g3, (cond (L 7) [iU ((Xo.add (Xj.comb f s i) (f i)).a.toNat), iU ((Xo.add (Xj.comb f s i) (f i)).b.toNat), iU ((Xo.add (Xj.comb f s i) (f i)).c.toNat), iU ((Xo.add (Xj.comb f s i) (f i)).d.toNat)] [iU ((Xj.comb f s i).a.toNat), iU ((Xj.comb f s i).b.toNat), iU ((Xj.comb f s i).c.toNat), iU ((Xj.comb f s i).d.toNat)])), (true, g2, [uN Xo.zero.a, uN Xo.zero.b, uN Xo.zero.c, uN Xo.zero.d])] []) H.drew ?_ ?_
    ·refine ⟨?_, ?_, ?_, ?_, ?_, ?_, ?_, ?_, trivial⟩
     ·intro L A w up hun hd F H
      have f7 : L 7 = false := up 7 0 rfl hun
      have G := H; rw [f7] at G
      refine step_on rfl (Lr 1 [iU ((Xj.comb f s i).a.toNat), iU ((Xj.comb f s i).b.toNat), iU ((Xj.comb f s i).c.toNat), iU ((Xj.comb f s i).d.toNat)] rw_23 F G) ?_
      rintro xv w' ⟨hx, rfl⟩
      exact ⟨Cs hx, H⟩
     ·exact Sa
     ·exact Sa
     ·exact Sa
     ·exact SV (fun _ _ _ F _ => d_iaddr (v := .pointer (some ⟨m, i * 4, none⟩)) F rfl rfl rfl (Mt.ixM m i (by omega) _))
     ·intro L A w up hun hd F H
      have f7 : L 7 = false := up 7 5 rfl hun
      have G := H; rw [f7] at G
      refine step_on rfl (d_loadF4 rw_23 F G rfl rfl (hm.row (i := i) (by omega))) ?_
      rintro xv w' ⟨hx, rfl⟩
      exact ⟨Cs hx, H⟩
     ·intro L A w up hun hd F H
      have f7 : L 7 = false := up 7 6 rfl hun
      rw [f7] at H
      refine step_on rfl (Dc if_67 F H (rxadd_c (Xj.comb f s i) (f i) _)) ?_
      rintro xv w' ⟨hx, H⟩
      exact ⟨Cs hx, (by show Sx.Own _ _ _ _; rw [show Inv.add L 6 7 = false from f7]; exact H)⟩
     ·intro L A w up hun hd F H
      have f7 : L 7 = false := hun
      rw [f7] at H
      refine step_on rfl (d_store (i := 1) (xs := [iU ((Xo.add (Xj.comb f s i) (f i)).a.toNat), iU ((Xo.add (Xj.comb f s i) (f i)).b.toNat), iU ((Xo.add (Xj.comb f s i) (f i)).c.toNat), iU ((Xo.add (Xj.comb f s i) (f i)).d.toNat)]) (us := [iU ((Xo.add (Xj.comb f s i) (f i)).a.toNat), iU ((Xo.add (Xj.comb f s i) (f i)).b.toNat), iU ((Xo.add (Xj.comb f s i) (f i)).c.toNat), iU ((Xo.add (Xj.comb f s i) (f i)).d.toNat)]) sz_23 F H rfl rfl rfl rfl rfl rfl rfl (Nat.le_of_ble_eq_true rfl) rfl) ?_
      intro xv w' H
      exact ⟨Cn, H⟩
    ·intro L A w hL F H
     have t7 : L 7 = true := hL 7 rfl
     rw [t7] at H
     have F := F.tq [(0, pT m 0), (3, pT g1 0), (4, pT g2 0), (5, pT g3 0), (6, iI i), (8, iI i), (9, bT), (12, iI i), (13, iI 1), (14, pT g1 1), (15, uN s.b), (16, iI i), (17, iI (i % 64 : Nat)), (18, uN (s.b >>> (i % 64))), (19, uN ((s.b >>> (i % 64)) % 2#64)), (20, bT)] rfl
     refine hK13 _ _ (Sx.plain ?_)
     refine Av F fun A F => ?_
     refine Zv F (Bn (iI (i + 1 : Nat)) F rfl rfl rfl (i_addN rfl (in_i64 _ (by omega)))) fun A F => ?_
     refine Av F fun A F => ?_
     refine Sx.nil ?_
     try dsimp only [Exit.then, Exit.noGoto]
     exact ⟨256 - (i + 1), by omega, i + 1, rfl, by omega, F.to ⟨rfl, rfl, rfl, rfl, rfl, trivial⟩, by rw [hv]; exact H⟩
  ·skip
   have hbt : Xj.bit s i = s.c.toNat.testBit (i % 64) := by unfold Xj.bit Xj.wrd; rw [hq]; rfl
   have hbn := Mt.bit_num s.c (i % 64)
   cases hb : Xj.bit s i
   ·have hv : Xj.comb f s (i + 1) = Xj.comb f s i := if_neg (by rw [hb]; decide)
    refine Sx.seq fun K15 hK15 => wp_block (Sp fun _ kk => Av F fun A F => ?_)
    refine Zv F (Bn (iI 2) F rfl rfl rfl (i_quoN hq (by decide) (in_i64 2 (by decide)))) fun A F => ?_
    refine Zv F (d_iaddr (v := pT g1 2) F rfl rfl rfl (by kernel_rfl)) fun A F => ?_
    iterate 2 (refine Av F ?_; intro A F)
    refine Zv F (Bn (iI (i % 64 : Nat)) F rfl rfl rfl (i_rem rfl (by decide))) fun A F => ?_
    refine Zv F (Bn (iU (s.c >>> (i % 64)).toNat) F rfl rfl rfl (i_shr64 s.c (i % 64) (by omega) _)) fun A F => ?_
    refine Zv F (Bn (uN ((s.c >>> (i % 64)) % 2#64)) F rfl rfl rfl (i_rem64 (s.c >>> (i % 64)) 2#64 (by decide))) fun A F => ?_
    refine Zv F (Bn bF F rfl rfl rfl (i_eq (by rw [hbn, ← hbt, hb]))) fun A F => ?_
    refine Nl kk (condF F rfl (wp_skip (hK15 _ _ (Sx.plain ?_))))
    refine Av F fun A F => ?_
    refine Zv F (Bn (iI (i + 1 : Nat)) F rfl rfl rfl (i_addN rfl (in_i64 _ (by omega)))) fun A F => ?_
    refine Av F fun A F => ?_
    refine Sx.nil ?_
    try dsimp only [Exit.then, Exit.noGoto]
    exact ⟨256 - (i + 1), by omega, i + 1, rfl, by omega, F.to ⟨rfl, rfl, rfl, rfl, rfl, trivial⟩, by rw [hv]; exact H⟩
   ·have hv : Xj.comb f s (i + 1) = Xo.add (Xj.comb f s i) (f i) := if_pos hb
    refine Sx.seq fun K17 hK17 => wp_block (Sp fun _ kk => Av F fun A F => ?_)
    refine Zv F (Bn (iI 2) F rfl rfl rfl (i_quoN hq (by decide) (in_i64 2 (by decide)))) fun A F => ?_
    refine Zv F (d_iaddr (v := pT g1 2) F rfl rfl rfl (by kernel_rfl)) fun A F => ?_
    iterate 2 (refine Av F ?_; intro A F)
    refine Zv F (Bn (iI (i % 64 : Nat)) F rfl rfl rfl (i_rem rfl (by decide))) fun A F => ?_
    refine Zv F (Bn (iU (s.c >>> (i % 64)).toNat) F rfl rfl rfl (i_shr64 s.c (i % 64) (by omega) _)) fun A F => ?_
    refine Zv F (Bn (uN ((s.c >>> (i % 64)) % 2#64)) F rfl rfl rfl (i_rem64 (s.c >>> (i % 64)) 2#64 (by decide))) fun A F => ?_
    refine Zv F (Bn bT F rfl rfl rfl (i_eq (by rw [hbn, ← hbt, hb]))) fun A F => ?_
    refine Nl kk (condT F rfl ?_)
    have F := F.tq [(0, pT m 0), (3, pT g1 0), (4, pT g2 0), (5, pT g3 0), (6, iI i), (8, iI i), (9, bT), (12, iI i), (13, iI 2), (14, pT g1 2), (15, uN s.c), (16, iI i), (17, iI (i % 64 : Nat)), (18, uN (s.c >>> (i % 64))), (19, uN ((s.c >>> (i % 64)) % 2#64)), (20, bT)] rfl
    refine Dn F [some (.agg #[iU ((Xj.comb f s i).a.toNat), iU ((Xj.comb f s i).b.toNat), iU ((Xj.comb f s i).c.toNat), iU ((Xj.comb f s i).d.toNat)]), some (pT m 0), some (iI i), some (pT m 0), some (.pointer (some ⟨m, i * 4, none⟩)), some (.agg #[iU ((f i).a.toNat), iU ((f i).b.toNat), iU ((f i).c.toNat), iU ((f i).d.toNat)]), some (.agg #[iU ((Xo.add (Xj.comb f s i) (f i)).a.toNat), iU ((Xo.add (Xj.comb f s i) (f i)).b.toNat), iU ((Xo.add (Xj.comb f s i) (f i)).c.toNat), iU ((Xo.add (Xj.comb f s i) (f i)).d.toNat)]), none] (fun L A w => Sx.Own w0 w [(true, g1, [uN s.a, uN s.b, uN s.c, uN s.d]), (true, g3, (cond (L 7) [iU ((Xo.add (Xj.comb f s i) (f i)).a.toNat), iU ((Xo.add (Xj.comb f s i) (f i)).b.toNat), iU ((Xo.add (Xj.comb f s i) (f i)).c.toNat), iU ((Xo.add (Xj.comb f s i) (f i)).d.toNat)] [iU ((Xj.comb f s i).a.toNat), iU ((Xj.comb f s i).b.toNat), iU ((Xj.comb f s i).c.toNat), iU ((Xj.comb f s i).d.toNat)])), (true, g2, [uN Xo.zero.a, uN Xo.zero.b, uN Xo.zero.c, uN Xo.zero.d])] []) H.drew ?_ ?_
    ·refine ⟨?_, ?_, ?_, ?_, ?_, ?_, ?_, ?_, trivial⟩
     ·intro L A w up hun hd F H
      have f7 : L 7 = false := up 7 0 rfl hun
      have G := H; rw [f7] at G
      refine step_on rfl (Lr 1 [iU ((Xj.comb f s i).a.toNat), iU ((Xj.comb f s i).b.toNat), iU ((Xj.comb f s i).c.toNat), iU ((Xj.comb f s i).d.toNat)] rw_23 F G) ?_
      rintro xv w' ⟨hx, rfl⟩
      exact ⟨Cs hx, H⟩
     ·exact Sa
     ·exact Sa
     ·exact Sa
     ·exact SV (fun _ _ _ F _ => d_iaddr (v := .pointer (some ⟨m, i * 4, none⟩)) F rfl rfl rfl (Mt.ixM m i (by omega) _))
     ·intro L A w up hun hd F H
      have f7 : L 7 = false := up 7 5 rfl hun
      have G := H; rw [f7] at G
      refine step_on rfl (d_loadF4 rw_23 F G rfl rfl (hm.row (i := i) (by omega))) ?_
      rintro xv w' ⟨hx, rfl⟩
      exact ⟨Cs hx, H⟩
     ·intro L A w up hun hd F H
      have f7 : L 7 = false := up 7 6 rfl hun
      rw [f7] at H
      refine step_on rfl (Dc if_67 F H (rxadd_c (Xj.comb f s i) (f i) _)) ?_
      rintro xv w' ⟨hx, H⟩
      exact ⟨Cs hx, (by show Sx.Own _ _ _ _; rw [show Inv.add L 6 7 = false from f7]; exact H)⟩
     ·intro L A w up hun hd F H
      have f7 : L 7 = false := hun
      rw [f7] at H
      refine step_on rfl (d_store (i := 1) (xs := [iU ((Xo.add (Xj.comb f s i) (f i)).a.toNat), iU ((Xo.add (Xj.comb f s i) (f i)).b.toNat), iU ((Xo.add (Xj.comb f s i) (f i)).c.toNat), iU ((Xo.add (Xj.comb f s i) (f i)).d.toNat)]) (us := [iU ((Xo.add (Xj.comb f s i) (f i)).a.toNat), iU ((Xo.add (Xj.comb f s i) (f i)).b.toNat), iU ((Xo.add (Xj.comb f s i) (f i)).c.toNat), iU ((Xo.add (Xj.comb f s i) (f i)).d.toNat)]) sz_23 F H rfl rfl rfl rfl rfl rfl rfl (Nat.le_of_ble_eq_true rfl) rfl) ?_
      intro xv w' H
      exact ⟨Cn, H⟩
    ·intro L A w hL F H
     have t7 : L 7 = true := hL 7 rfl
     rw [t7] at H
     have F := F.tq [(0, pT m 0), (3, pT g1 0), (4, pT g2 0), (5, pT g3 0), (6, iI i), (8, iI i), (9, bT), (12, iI i), (13, iI 2), (14, pT g1 2), (15, uN s.c), (16, iI i), (17, iI (i % 64 : Nat)), (18, uN (s.c >>> (i % 64))), (19, uN ((s.c >>> (i % 64)) % 2#64)), (20, bT)] rfl
     refine hK17 _ _ (Sx.plain ?_)
     refine Av F fun A F => ?_
     refine Zv F (Bn (iI (i + 1 : Nat)) F rfl rfl rfl (i_addN rfl (in_i64 _ (by omega)))) fun A F => ?_
     refine Av F fun A F => ?_
     refine Sx.nil ?_
     try dsimp only [Exit.then, Exit.noGoto]
     exact ⟨256 - (i + 1), by omega, i + 1, rfl, by omega, F.to ⟨rfl, rfl, rfl, rfl, rfl, trivial⟩, by rw [hv]; exact H⟩
  ·skip
   have hbt : Xj.bit s i = s.d.toNat.testBit (i % 64) := by unfold Xj.bit Xj.wrd; rw [hq]; rfl
   have hbn := Mt.bit_num s.d (i % 64)
   cases hb : Xj.bit s i
   ·have hv : Xj.comb f s (i + 1) = Xj.comb f s i := if_neg (by rw [hb]; decide)
    refine Sx.seq fun K19 hK19 => wp_block (Sp fun _ kk => Av F fun A F => ?_)
    refine Zv F (Bn (iI 3) F rfl rfl rfl (i_quoN hq (by decide) (in_i64 3 (by decide)))) fun A F => ?_
    refine Zv F (d_iaddr (v := pT g1 3) F rfl rfl rfl (by kernel_rfl)) fun A F => ?_
    iterate 2 (refine Av F ?_; intro A F)
    refine Zv F (Bn (iI (i % 64 : Nat)) F rfl rfl rfl (i_rem rfl (by decide))) fun A F => ?_
    refine Zv F (Bn (iU (s.d >>> (i % 64)).toNat) F rfl rfl rfl (i_shr64 s.d (i % 64) (by omega) _)) fun A F => ?_
    refine Zv F (Bn (uN ((s.d >>> (i % 64)) % 2#64)) F rfl rfl rfl (i_rem64 (s.d >>> (i % 64)) 2#64 (by decide))) fun A F => ?_
    refine Zv F (Bn bF F rfl rfl rfl (i_eq (by rw [hbn, ← hbt, hb]))) fun A F => ?_
    refine Nl kk (condF F rfl (wp_skip (hK19 _ _ (Sx.plain ?_))))
    refine Av F fun A F => ?_
    refine Zv F (Bn (iI (i + 1 : Nat)) F rfl rfl rfl (i_addN rfl (in_i64 _ (by omega)))) fun A F => ?_
    refine Av F fun A F => ?_
    refine Sx.nil ?_
    try dsimp only [Exit.then, Exit.noGoto]
    exact ⟨256 - (i + 1), by omega, i + 1, rfl, by omega, F.to ⟨rfl, rfl, rfl, rfl, rfl, trivial⟩, by rw [hv]; exact H⟩
   ·have hv : Xj.comb f s (i + 1) = Xo.add (Xj.comb f s i) (f i) := if_pos hb
    refine Sx.seq fun K21 hK21 => wp_block (Sp fun _ kk => Av F fun A F => ?_)
    refine Zv F (Bn (iI 3) F rfl rfl rfl (i_quoN hq (by decide) (in_i64 3 (by decide)))) fun A F => ?_
    refine Zv F (d_iaddr (v := pT g1 3) F rfl rfl rfl (by kernel_rfl)) fun A F => ?_
    iterate 2 (refine Av F ?_; intro A F)
    refine Zv F (Bn (iI (i % 64 : Nat)) F rfl rfl rfl (i_rem rfl (by decide))) fun A F => ?_
    refine Zv F (Bn (iU (s.d >>> (i % 64)).toNat) F rfl rfl rfl (i_shr64 s.d (i % 64) (by omega) _)) fun A F => ?_
    refine Zv F (Bn (uN ((s.d >>> (i % 64)) % 2#64)) F rfl rfl rfl (i_rem64 (s.d >>> (i % 64)) 2#64 (by decide))) fun A F => ?_
    refine Zv F (Bn bT F rfl rfl rfl (i_eq (by rw [hbn, ← hbt, hb]))) fun A F => ?_
    refine Nl kk (condT F rfl ?_)
    have F := F.tq [(0, pT m 0), (3, pT g1 0), (4, pT g2 0), (5, pT g3 0), (6, iI i), (8, iI i), (9, bT), (12, iI i), (13, iI 3), (14, pT g1 3), (15, uN s.d), (16, iI i), (17, iI (i % 64 : Nat)), (18, uN (s.d >>> (i % 64))), (19, uN ((s.d >>> (i % 64)) % 2#64)), (20, bT)] rfl
    refine Dn F [some (.agg #[iU ((Xj.comb f s i).a.toNat), iU ((Xj.comb f s i).b.toNat), iU ((Xj.comb f s i).c.toNat), iU ((Xj.comb f s i).d.toNat)]), some (pT m 0), some (iI i), some (pT m 0), some (.pointer (some ⟨m, i * 4, none⟩)), some (.agg #[iU ((f i).a.toNat), iU ((f i).b.toNat), iU ((f i).c.toNat), iU ((f i).d.toNat)]), some (.agg #[iU ((Xo.add (Xj.comb f s i) (f i)).a.toNat), iU ((Xo.add (Xj.comb f s i) (f i)).b.toNat), iU ((Xo.add (Xj.comb f s i) (f i)).c.toNat), iU ((Xo.add (Xj.comb f s i) (f i)).d.toNat)]), none] (fun L A w => Sx.Own w0 w [(true, g1, [uN s.a, uN s.b, uN s.c, uN s.d]), (true, g3, (cond (L 7) [iU ((Xo.add (Xj.comb f s i) (f i)).a.toNat), iU ((Xo.add (Xj.comb f s i) (f i)).b.toNat), iU ((Xo.add (Xj.comb f s i) (f i)).c.toNat), iU ((Xo.add (Xj.comb f s i) (f i)).d.toNat)] [iU ((Xj.comb f s i).a.toNat), iU ((Xj.comb f s i).b.toNat), iU ((Xj.comb f s i).c.toNat), iU ((Xj.comb f s i).d.toNat)])), (true, g2, [uN Xo.zero.a, uN Xo.zero.b, uN Xo.zero.c, uN Xo.zero.d])] []) H.drew ?_ ?_
    ·refine ⟨?_, ?_, ?_, ?_, ?_, ?_, ?_, ?_, trivial⟩
     ·intro L A w up hun hd F H
      have f7 : L 7 = false := up 7 0 rfl hun
      have G := H; rw [f7] at G
      refine step_on rfl (Lr 1 [iU ((Xj.comb f s i).a.toNat), iU ((Xj.comb f s i).b.toNat), iU ((Xj.comb f s i).c.toNat), iU ((Xj.comb f s i).d.toNat)] rw_23 F G) ?_
      rintro xv w' ⟨hx, rfl⟩
      exact ⟨Cs hx, H⟩
     ·exact Sa
     ·exact Sa
     ·exact Sa
     ·exact SV (fun _ _ _ F _ => d_iaddr (v := .pointer (some ⟨m, i * 4, none⟩)) F rfl rfl rfl (Mt.ixM m i (by omega) _))
     ·intro L A w up hun hd F H
      have f7 : L 7 = false := up 7 5 rfl hun
      have G := H; rw [f7] at G
      refine step_on rfl (d_loadF4 rw_23 F G rfl rfl (hm.row (i := i) (by omega))) ?_
      rintro xv w' ⟨hx, rfl⟩
      exact ⟨Cs hx, H⟩
     ·intro L A w up hun hd F H
      have f7 : L 7 = false := up 7 6 rfl hun
      rw [f7] at H
      refine step_on rfl (Dc if_67 F H (rxadd_c (Xj.comb f s i) (f i) _)) ?_
      rintro xv w' ⟨hx, H⟩
      exact ⟨Cs hx, (by show Sx.Own _ _ _ _; rw [show Inv.add L 6 7 = false from f7]; exact H)⟩
     ·intro L A w up hun hd F H
      have f7 : L 7 = false := hun
      rw [f7] at H
      refine step_on rfl (d_store (i := 1) (xs := [iU ((Xo.add (Xj.comb f s i) (f i)).a.toNat), iU ((Xo.add (Xj.comb f s i) (f i)).b.toNat), iU ((Xo.add (Xj.comb f s i) (f i)).c.toNat), iU ((Xo.add (Xj.comb f s i) (f i)).d.toNat)]) (us := [iU ((Xo.add (Xj.comb f s i) (f i)).a.toNat), iU ((Xo.add (Xj.comb f s i) (f i)).b.toNat), iU ((Xo.add (Xj.comb f s i) (f i)).c.toNat), iU ((Xo.add (Xj.comb f s i) (f i)).d.toNat)]) sz_23 F H rfl rfl rfl rfl rfl rfl rfl (Nat.le_of_ble_eq_true rfl) rfl) ?_
      intro xv w' H
      exact ⟨Cn, H⟩
    ·intro L A w hL F H
     have t7 : L 7 = true := hL 7 rfl
     rw [t7] at H
     have F := F.tq [(0, pT m 0), (3, pT g1 0), (4, pT g2 0), (5, pT g3 0), (6, iI i), (8, iI i), (9, bT), (12, iI i), (13, iI 3), (14, pT g1 3), (15, uN s.d), (16, iI i), (17, iI (i % 64 : Nat)), (18, uN (s.d >>> (i % 64))), (19, uN ((s.d >>> (i % 64)) % 2#64)), (20, bT)] rfl
     refine hK21 _ _ (Sx.plain ?_)
     refine Av F fun A F => ?_
     refine Zv F (Bn (iI (i + 1 : Nat)) F rfl rfl rfl (i_addN rfl (in_i64 _ (by omega)))) fun A F => ?_
     refine Av F fun A F => ?_
     refine Sx.nil ?_
     try dsimp only [Exit.then, Exit.noGoto]
     exact ⟨256 - (i + 1), by omega, i + 1, rfl, by omega, F.to ⟨rfl, rfl, rfl, rfl, rfl, trivial⟩, by rw [hv]; exact H⟩
 ·have hie_i : i = 256 := by omega
  rw [hie_i] at F
  try rw [hie_i] at H
  refine Sx.seq fun K23 hK23 => Sp fun _ kk => ?_
  iterate 2 (refine Av F ?_; intro A F)
  refine Nl kk (condF F rfl (wp_exit ?_))
  try dsimp only [Exit.then, Exit.jump, Exit.noGoto]
  refine exit_here (hK3 _ _ (Sp fun _ kk => Av F fun A F => ?_))
  refine Zt F (d_store (i := 2) (xs := [iU ((Xj.comb f s 256).a.toNat), iU ((Xj.comb f s 256).b.toNat), iU ((Xj.comb f s 256).c.toNat), iU ((Xj.comb f s 256).d.toNat)]) (us := [iU ((Xj.comb f s 256).a.toNat), iU ((Xj.comb f s 256).b.toNat), iU ((Xj.comb f s 256).c.toNat), iU ((Xj.comb f s 256).d.toNat)]) sz_23 F H rfl rfl rfl rfl rfl rfl rfl (Nat.le_of_ble_eq_true rfl) rfl) fun A w F (H : Sx.Own w0 _ [(true, g1, [uN s.a, uN s.b, uN s.c, uN s.d]), (true, g3, [iU ((Xj.comb f s 256).a.toNat), iU ((Xj.comb f s 256).b.toNat), iU ((Xj.comb f s 256).c.toNat), iU ((Xj.comb f s 256).d.toNat)]), (true, g2, [iU ((Xj.comb f s 256).a.toNat), iU ((Xj.comb f s 256).b.toNat), iU ((Xj.comb f s 256).c.toNat), iU ((Xj.comb f s 256).d.toNat)])] []) => ?_
  refine Nl kk (wp_ret ?_)
  try dsimp only [Exit.then, Exit.inBlock, Exit.jump, Exit.noGoto]
  refine ret1 F Tryz.results35 (res_row (i := 2) (xs := [iU ((Xj.comb f s 256).a.toNat), iU ((Xj.comb f s 256).b.toNat), iU ((Xj.comb f s 256).c.toNat), iU ((Xj.comb f s 256).d.toNat)]) rw_23 F H rfl rfl rfl rfl) ⟨?_, H.below⟩
  rfl
open Sx in
theorem mtwice_c (m : Nat) (f : Nat → St) (w0 : World) (hm : Mt.At w0 m f) : Calls Tryz.prog 36 #[pT m 0] w0 fun e w' => e = .returned (.agg (Mt.cells (fun j => Xj.comb f (f j) 256)).toArray) ∧ Below w0.heap.size w0 w' := by
 refine En Tryz.func36 Tryz.ntmps36 fun A F => ?_
 have H := Sx.Own.start w0
 refine Sp fun _ kk => Zb F (d_alloc H rfl (Mt.cells (fun _ => Xo.zero)) Mt.zeroM) fun g1 A w F H => ?_
 refine Nl kk (Sp fun _ kk => Zv F (d_build (qs := #[]) (v := .agg (Mt.cells (fun _ => Xo.zero)).toArray) F rfl rfl (Mt.buildM _)) fun A F => ?_)
 refine Zb F (d_alloc H rfl (Mt.cells (fun _ => Xo.zero)) Mt.zeroM) fun g2 A w F H => ?_
 refine Zt F (d_store (i := 0) (xs := (Mt.cells (fun _ => Xo.zero))) (us := (Mt.cells (fun _ => Xo.zero))) sz_102 F H rfl rfl rfl rfl (Mt.len _) (Mt.ones _) rfl (by rw [Mt.len]; decide) (Mt.splice_all _ _)) fun A w F (H : Sx.Own w0 _ [(true, g2, (Mt.cells (fun _ => Xo.zero))), (true, g1, (Mt.cells (fun _ => Xo.zero)))] []) => ?_
 refine Nl kk (Sx.seq fun K3 hK3 => Sp fun _ kk => Av F fun A F => ?_)
 refine Nl kk (wp_block ?_)
 have hf0 := Mt.fill_zero (fun j => Xj.comb f (f j) 256)
 rw [← hf0] at H
 refine loop (fun q A w => ∃ (i : Nat), q = 256 - i ∧ i ≤ 256 ∧ Fr 20 A [(0, pT m 0), (2, pT g1 0), (3, pT g2 0), (4, iI i)] ∧ Sx.Own w0 w [(true, g2, (Mt.cells (Mt.fill (fun j => Xj.comb f (f j) 256) i))), (true, g1, (Mt.cells (Mt.fill (fun j => Xj.comb f (f j) 256) 0)))] []) (256 - 0) ⟨0, rfl, Nat.zero_le _, F.to ⟨rfl, rfl, rfl, rfl, trivial⟩, H⟩ ?_
 rintro q A w ⟨i, rfl, hi_i, F, H⟩
 by_cases hlt_i : i < 256
 ·skip
  refine Sx.seq fun K5 hK5 => Sp fun _ kk => Av F fun A F => ?_
  refine Zv F (Bn bT F rfl rfl rfl (i_lt (decide_eq_true (by omega)))) fun A F => ?_
  refine Nl kk (condT F rfl (wp_skip (hK5 _ _ (Sx.seq fun K7 hK7 => wp_block (Sx.plain ?_)))))
  iterate 5 (refine Av F ?_; intro A F)
  refine Zv F (d_iaddr (v := .pointer (some ⟨m, i * 4, none⟩)) F rfl rfl rfl (Mt.ixM m i (by omega) _)) fun A F => ?_
  refine Zv F (d_loadF4 rw_23 F H rfl rfl (hm.row (i := i) (by omega))) fun A F => ?_
  refine Zw F (Dc if_35 F H (mof_c m f (f i) _ (hm.keep H.below))) fun A w F H => ?_
  refine Zv F (d_iaddr (v := .pointer (some ⟨g2, i * 4, none⟩)) F rfl rfl rfl (Mt.ixM g2 i (by omega) _)) fun A F => ?_
  refine Zt F (d_store (i := 0) (xs := Mt.row (Xj.comb f (f i) 256)) (us := (Mt.cells (Mt.upd (Mt.fill (fun j => Xj.comb f (f j) 256) i) i (Xj.comb f (f i) 256)))) sz_23 F H rfl rfl rfl rfl rfl rfl rfl (by rw [Mt.len]; show i * 4 + 4 ≤ 1024; omega) (Mt.splice _ _ (by omega))) fun A w F (H : Sx.Own w0 _ [(true, g2, (Mt.cells (Mt.upd (Mt.fill (fun j => Xj.comb f (f j) 256) i) i (Xj.comb f (f i) 256)))), (true, g1, (Mt.cells (Mt.fill (fun j => Xj.comb f (f j) 256) 0)))] []) => ?_
  refine Sx.nil (hK7 _ _ (Sx.plain ?_))
  refine Av F fun A F => ?_
  refine Zv F (Bn (iI (i + 1 : Nat)) F rfl rfl rfl (i_addN rfl (in_i64 _ (by omega)))) fun A F => ?_
  refine Av F fun A F => ?_
  refine Sx.nil ?_
  try dsimp only [Exit.then, Exit.noGoto]
  exact ⟨256 - (i + 1), by omega, i + 1, rfl, by omega, F.to ⟨rfl, rfl, rfl, rfl, trivial⟩, by rw [← Mt.fill_upd]; exact H⟩
 ·have hie_i : i = 256 := by omega
  rw [hie_i] at F
  try rw [hie_i] at H
  refine Sx.seq fun K8 hK8 => Sp fun _ kk => ?_
  iterate 2 (refine Av F ?_; intro A F)
  refine Nl kk (condF F rfl (wp_exit ?_))
  try dsimp only [Exit.then, Exit.jump, Exit.noGoto]
  refine exit_here (hK3 _ _ (Sp fun _ kk => Zv F (d_load (i := 0) (xs := (Mt.cells (Mt.fill (fun j => Xj.comb f (f j) 256) 256))) rw_102 F H rfl rfl rfl (Mt.all _) (Mt.len _)) fun A F => ?_))
  refine Zt F (d_store (i := 1) (xs := (Mt.cells (Mt.fill (fun j => Xj.comb f (f j) 256) 256))) (us := (Mt.cells (Mt.fill (fun j => Xj.comb f (f j) 256) 256))) sz_102 F H rfl rfl rfl rfl (Mt.len _) (Mt.ones _) rfl (by rw [Mt.len]; decide) (Mt.splice_all _ _)) fun A w F (H : Sx.Own w0 _ [(true, g2, (Mt.cells (Mt.fill (fun j => Xj.comb f (f j) 256) 256))), (true, g1, (Mt.cells (Mt.fill (fun j => Xj.comb f (f j) 256) 256)))] []) => ?_
  refine Nl kk (Wr (ret1 F Tryz.results36 (res_row (i := 1) (xs := (Mt.cells (Mt.fill (fun j => Xj.comb f (f j) 256) 256))) rw_102 F H rfl rfl (Mt.all _) (Mt.len _)) ?_))
  rw [Mt.fill_all]
  exact ⟨rfl, H.below⟩
section
namespace Rj
open Xo Xj
def pm (i : Nat) : Nat → St := fun j => it (2 ^ i) (bas j)
theorem pm_zero : (fun i => Xo.step (Xj.bas i)) = pm 0 := by funext j; unfold pm; rw [Nat.pow_zero]; rfl
theorem of_pm (i : Nat) (s : St) : comb (pm i) s 256 = it (2 ^ i) s := comb_all (it (2 ^ i)) (it_zero _) (it_lin _) s
theorem twice (i : Nat) : (fun j => comb (pm i) (pm i j) 256) = pm (i + 1) := by
  funext j
  rw [of_pm]
  show it (2 ^ i) (it (2 ^ i) (bas j)) = it (2 ^ (i + 1)) (bas j)
  rw [← it_add, ← Nat.two_mul, Nat.pow_succ, Nat.mul_comm]
theorem next (x i : Nat) (s : St) (b : Bool) (h : x.testBit i = b) : it (x % 2 ^ (i + 1)) s = if b then comb (pm i) (it (x % 2 ^ i) s) 256 else it (x % 2 ^ i) s := by
  have hm : x % 2 ^ (i + 1) = x % 2 ^ i + 2 ^ i * b.toNat := by
    rw [Nat.mod_pow_succ, ← h, Nat.testBit_eq_decide_div_mod_eq]
    have h2 : x / 2 ^ i % 2 = 0 ∨ x / 2 ^ i % 2 = 1 := by omega
    rcases h2 with e | e <;> rw [e] <;> rfl
  rw [hm]
  cases b
  · show it (x % 2 ^ i + 2 ^ i * 0) s = it (x % 2 ^ i) s
    rw [Nat.mul_zero, Nat.add_zero]
  · show it (x % 2 ^ i + 2 ^ i * 1) s = _
    rw [Nat.mul_one, it_add, if_pos rfl, of_pm]
theorem full (x : BitVec 128) (n : Nat) (h : Bi.lenN x.getLsbD 128 = n) : x.toNat % 2 ^ n = x.toNat := by
  refine Nat.mod_eq_of_lt (Nat.lt_pow_two_of_testBit _ fun i hi => ?_)
  by_cases h8 : i < 128
  · exact Bi.lenN_above x.getLsbD 128 i (by omega) h8
  · exact Nat.testBit_lt_two_pow (Nat.lt_of_lt_of_le x.isLt (Nat.pow_le_pow_right (by decide) (by omega)))
end Rj
theorem Rj.lt {f : Nat → Bool} {n j : Nat} {u : Value} (h : (Bi.bis f n)[j]? = some u) : j < n := by
  have := (List.getElem?_eq_some_iff.1 h).1; rw [Bi.length] at this; exact this
theorem Rj.get {f : Nat → Bool} {n j : Nat} {u : Value} (h : (Bi.bis f n)[j]? = some u) : u = .int .i64 ((f j).toNat : Nat) := by
  rw [Bi.at_ f n j (Rj.lt h)] at h; exact (Option.some.inj h).symm
open Sx in
theorem rtrim_c (f : Nat → Bool) (len m : Nat) (ga oa capa : Nat) (hl : len ≤ 1000000) (hcap : len ≤ capa) (hm : Bi.lenN f len = m) (w0 : World) (hc : ∀ k, k < len → w0.cell? ⟨ga, oa + k, none⟩ = some (iI ((f k).toNat : Nat))) : Calls Tryz.prog 34 #[sL ga oa len capa] w0 fun e w' => ∃ v, e = .returned (v) ∧ w'.ownsRow w0.heap.size 3 1 v m (Bi.bis f m) ∧ Below w0.heap.size w0 w' := by
 refine En Tryz.func34 Tryz.ntmps34 fun A F => ?_
 have H := Sx.Own.start w0
 refine Sp fun _ kk => Av F fun A F => ?_
 refine Nl kk (Sp fun _ kk => Av F fun A F => ?_)
 refine Zv F (d_lenS el_54 F rfl rfl) fun A F => ?_
 refine Av F fun A F => ?_
 refine Nl kk (Sx.seq fun K3 hK3 => wp_block (loop (fun q A w => ∃ (n : Nat), q = n ∧ n ≤ len ∧ Bi.lenN f n = m ∧ Fr 23 A [(0, sL ga oa len capa), (3, iI n)] ∧ Sx.Own w0 w [] []) len ⟨len, rfl, Nat.le_refl _, hm, F.to ⟨rfl, rfl, trivial⟩, H⟩ ?_))
 rintro q A w ⟨n, rfl, hn, hz, F, H⟩
 by_cases h0 : q = 0
 ·subst h0
  have hm0 : 0 = m := hz
  refine Sx.seq fun K4 hK4 => Sp fun _ kk => ?_
  iterate 3 (refine Av F ?_; intro A F)
  refine su F (wanted_off rfl (guard_known (d := 8) (b := false) F rfl rfl) rfl) rfl (by decide) (fun A F => ?_)
  refine su F (wanted_off rfl (guard_known (d := 8) (b := false) F rfl rfl) rfl) rfl (by decide) (fun A F => ?_)
  refine su F (wanted_off rfl (guard_known (d := 8) (b := false) F rfl rfl) rfl) rfl (by decide) (fun A F => ?_)
  refine su F (wanted_off rfl (guard_known (d := 8) (b := false) F rfl rfl) rfl) rfl (by decide) (fun A F => ?_)
  refine su F (wanted_off rfl (guard_known (d := 8) (b := false) F rfl rfl) rfl) rfl (by decide) (fun A F => ?_)
  refine su F (wanted_off rfl (guard_known (d := 8) (b := false) F rfl rfl) rfl) rfl (by decide) (fun A F => ?_)
  refine Av F fun A F => ?_
  refine Nl kk (condF F rfl (wp_exit ?_))
  try dsimp only [Exit.then, Exit.jump, Exit.noGoto]
  refine exit_here (hK3 _ _ (Sp fun _ kk => Zr (mk := fun v => v) F (d_litR (qs := #[]) (cs := #[]) (E := 3) (z := 1) F H rfl rfl (fun _ => by kernel_rfl) rfl (by decide)) fun v1 A w F H => ?_))
  iterate 2 (refine Av F ?_; intro A F)
  subst hm0
  have hcl : 0 ≤ len := Nat.zero_le _
  refine Zv F (d_sliceH (h := 0) el_54 F rfl rfl rfl rfl (by omega)) fun A F => ?_
  refine Zr (mk := fun v => v) F (d_appendF (i := 0) (news := Bi.bis f 0) el_54 F H rfl rfl rfl rfl (by rw [Bi.length, Nat.mul_one]) (fun j u hu => by have hj := Rj.lt hu; rw [Addr.add_mid, Rj.get hu]; exact hc j (by omega)) (Bi.ones _ _) rfl (by omega) (by decide)) fun v2 A w F H => ?_
  refine Av F fun A F => ?_
  refine Nl kk (Wr (ret1 F Tryz.results34 (res_tmp F rfl) ?_))
  exact ⟨_, rfl, by have h := H.row 0 _ rfl rfl; rw [Nat.zero_add, List.nil_append] at h; exact h, H.below⟩
 ·have hcell := hc (q - 1) (by omega)
  cases hb : f (q - 1)
  ·rw [hb] at hcell
   have hz' : Bi.lenN f (q - 1) = m := by rw [← hz, show q = (q - 1) + 1 from by omega]; show _ = (if f (q - 1) = true then _ else _); rw [hb]; rfl
   refine Sx.seq fun K7 hK7 => Sp fun _ kk => Av F fun A F => ?_
   refine Zv F (Bn bT F rfl rfl rfl (i_gt (decide_eq_true (by omega)))) fun A F => ?_
   iterate 3 (refine Av F ?_; intro A F)
   refine Zv F (Bn (iI (q - 1 : Nat)) F rfl rfl rfl (i_subS (by rw [in64 _ (by omega)]; omega))) fun A F => ?_
   refine Zv F (d_ix1 (k := (q - 1)) (g := ga) (off := oa) el_54 F rfl rfl rfl rfl (rfl) (by omega)) fun A F => ?_
   refine Zv F (d_loadF one_3 F H rfl rfl hcell) fun A F => ?_
   refine Zv F (Bn bT F rfl rfl rfl (i_eq rfl)) fun A F => ?_
   refine Av F fun A F => ?_
   refine Nl kk (condT F rfl (wp_skip (hK7 _ _ (wp_block (Sx.plain ?_)))))
   refine Av F fun A F => ?_
   refine Zv F (Bn (iI (q - 1 : Nat)) F rfl rfl rfl (i_subS (by rw [in64 _ (by omega)]; omega))) fun A F => ?_
   refine Av F fun A F => ?_
   refine Sx.nil ?_
   try dsimp only [Exit.then]
   exact ⟨q - 1, by omega, q - 1, rfl, by omega, hz', F.to ⟨rfl, rfl, trivial⟩, H⟩
  ·rw [hb] at hcell
   have hz' : q = m := by
    have h2 : Bi.lenN f (q - 1 + 1) = q - 1 + 1 := by show (if f (q - 1) = true then _ else _) = _; rw [hb, if_pos rfl]
    rw [show q - 1 + 1 = q from by omega] at h2; omega
   refine Sx.seq fun K9 hK9 => Sp fun _ kk => Av F fun A F => ?_
   refine Zv F (Bn bT F rfl rfl rfl (i_gt (decide_eq_true (by omega)))) fun A F => ?_
   iterate 3 (refine Av F ?_; intro A F)
   refine Zv F (Bn (iI (q - 1 : Nat)) F rfl rfl rfl (i_subS (by rw [in64 _ (by omega)]; omega))) fun A F => ?_
   refine Zv F (d_ix1 (k := (q - 1)) (g := ga) (off := oa) el_54 F rfl rfl rfl rfl (rfl) (by omega)) fun A F => ?_
   refine Zv F (d_loadF one_3 F H rfl rfl hcell) fun A F => ?_
   refine Zv F (Bn bF F rfl rfl rfl (i_eq rfl)) fun A F => ?_
   refine Av F fun A F => ?_
   refine Nl kk (condF F rfl (wp_exit ?_))
   try dsimp only [Exit.then, Exit.jump, Exit.noGoto]
   refine exit_here (hK3 _ _ (Sp fun _ kk => Zr (mk := fun v => v) F (d_litR (qs := #[]) (cs := #[]) (E := 3) (z := 1) F H rfl rfl (fun _ => by kernel_rfl) rfl (by decide)) fun v3 A w F H => ?_))
   iterate 2 (refine Av F ?_; intro A F)
   subst hz'
   have hcl : 0 ≤ len := Nat.zero_le _
   refine Zv F (d_sliceH (h := q) el_54 F rfl rfl rfl rfl (by omega)) fun A F => ?_
   refine Zr (mk := fun v => v) F (d_appendF (i := 0) (news := Bi.bis f q) el_54 F H rfl rfl rfl rfl (by rw [Bi.length, Nat.mul_one]) (fun j u hu => by have hj := Rj.lt hu; rw [Addr.add_mid, Rj.get hu]; exact hc j (by omega)) (Bi.ones _ _) rfl (by omega) (by decide)) fun v4 A w F H => ?_
   refine Av F fun A F => ?_
   refine Nl kk (Wr (ret1 F Tryz.results34 (res_tmp F rfl) ?_))
   exact ⟨_, rfl, by have h := H.row 0 _ rfl rfl; rw [Nat.zero_add, List.nil_append] at h; exact h, H.below⟩
set_option maxHeartbeats 1000000 in
open Sx in
theorem r8jump_1 (s : St) (x : BitVec 128) (ga capa n : Nat) (hcap : 128 ≤ capa) (hn : Bi.lenN x.getLsbD 128 = n) (hn8 : n ≤ 128) (w0 : World) (hc : ∀ k, k < 128 → w0.cell? ⟨ga, 0 + k, none⟩ = some (iI ((x.getLsbD k).toNat : Nat))) : Calls Tryz.prog 11 #[.agg #[uN s.a, uN s.b, uN s.c, uN s.d], sL ga 0 128 capa] w0 fun e w' => e = .returned (.agg #[iU ((Xo.it x.toNat s).a.toNat), iU ((Xo.it x.toNat s).b.toNat), iU ((Xo.it x.toNat s).c.toNat), iU ((Xo.it x.toNat s).d.toNat)]) ∧ Below w0.heap.size w0 w' := by
 refine En Tryz.func11 Tryz.ntmps11 fun A F => ?_
 have H := Sx.Own.start w0
 refine Sp fun _ kk => Zb F (d_box F H rfl rfl [uN s.a, uN s.b, uN s.c, uN s.d] rfl) fun g1 A w F H => ?_
 refine Zb F (d_alloc H rfl [iU 0, iU 0, iU 0, iU 0] zero_23) fun g2 A w F H => ?_
 refine Nl kk (Sp fun _ kk => Zw F (Dc if_33 F H (mone_c _)) fun A w F H => ?_)
 refine Zb F (d_alloc H rfl (Mt.cells (fun _ => Xo.zero)) Mt.zeroM) fun g3 A w F H => ?_
 refine Zt F (d_store (i := 0) (xs := (Mt.cells (fun i => Xo.step (Xj.bas i)))) (us := (Mt.cells (fun i => Xo.step (Xj.bas i)))) sz_102 F H rfl rfl rfl rfl (Mt.len _) (Mt.ones _) rfl (by rw [Mt.len]; decide) (Mt.splice_all _ _)) fun A w F (H : Sx.Own w0 _ [(true, g3, (Mt.cells (fun i => Xo.step (Xj.bas i)))), (true, g2, [iU 0, iU 0, iU 0, iU 0]), (true, g1, [uN s.a, uN s.b, uN s.c, uN s.d])] []) => ?_
 refine Nl kk (Sp fun _ kk => Av F fun A F => ?_)
 refine Zr (mk := fun v => v) F (d_callR (vs := [sL ga 0 128 capa]) (mk := fun v => v) if_34 F H rfl rfl (rtrim_c (BitVec.getLsbD x) 128 n _ _ _ (by decide) hcap hn _ (fun k hk => keep_cell H.below _ _ (hc k hk)))) fun v1 A w F (H : Sx.Own w0 _ [(true, g3, (Mt.cells (fun i => Xo.step (Xj.bas i)))), (true, g2, [iU 0, iU 0, iU 0, iU 0]), (true, g1, [uN s.a, uN s.b, uN s.c, uN s.d])] [⟨true, v1, 3, 1, n, (Bi.bis (BitVec.getLsbD x) n)⟩]) => ?_
 refine Av F fun A F => ?_
 refine Nl kk (Sx.seq fun K4 hK4 => Sp fun _ kk => Av F fun A F => ?_)
 refine Nl kk (wp_block ?_)
 rw [Rj.pm_zero] at H
 have e0 : s = Xo.it (x.toNat % 2 ^ 0) s := by rw [Nat.pow_zero, Nat.mod_one]; rfl
 have H : Sx.Own w0 w [(true, g3, (Mt.cells (Rj.pm 0))), (true, g2, [iU 0, iU 0, iU 0, iU 0]), (true, g1, [iU ((Xo.it (x.toNat % 2 ^ 0) s).a.toNat), iU ((Xo.it (x.toNat % 2 ^ 0) s).b.toNat), iU ((Xo.it (x.toNat % 2 ^ 0) s).c.toNat), iU ((Xo.it (x.toNat % 2 ^ 0) s).d.toNat)])] [⟨true, v1, 3, 1, n, (Bi.bis (BitVec.getLsbD x) n)⟩] := by rw [← e0]; exact H
 refine loop (fun q A w => ∃ (i : Nat) (vl : Value), q = n - i ∧ i ≤ n ∧ Fr 25 A [(2, pT g1 0), (4, pT g2 0), (5, pT g3 0), (1, vl), (6, iI i)] ∧ Sx.Own w0 w [(true, g3, (Mt.cells (Rj.pm i))), (true, g2, [iU 0, iU 0, iU 0, iU 0]), (true, g1, [iU ((Xo.it (x.toNat % 2 ^ i) s).a.toNat), iU ((Xo.it (x.toNat % 2 ^ i) s).b.toNat), iU ((Xo.it (x.toNat % 2 ^ i) s).c.toNat), iU ((Xo.it (x.toNat % 2 ^ i) s).d.toNat)])] [⟨true, vl, 3, 1, n, (Bi.bis (BitVec.getLsbD x) n)⟩]) (n - 0) ⟨0, v1, rfl, Nat.zero_le _, F.to ⟨rfl, rfl, rfl, rfl, rfl, trivial⟩, H⟩ ?_
 rintro q A w ⟨i, vl, rfl, hi_i, F, H⟩
 by_cases hlt_i : i < n
 ·skip
  have Fcur := F
  have Hcur := H
  obtain ⟨lg, lc, rfl, hc1_lg, hc2_lg⟩ := Hcur.open (i := 0) rfl (by omega)
  have F := Fcur
  have H := Hcur
  refine Sx.seq fun K6 hK6 => Sp fun _ kk => ?_
  iterate 2 (refine Av F ?_; intro A F)
  refine Zv F (d_len (i := 0) el_54 F H rfl rfl rfl) fun A F => ?_
  refine Zv F (Bn bT F rfl rfl rfl (i_lt (decide_eq_true (by omega)))) fun A F => ?_
  refine Nl kk (condT F rfl (wp_skip (hK6 _ _ ?_)))
  have hnx := Rj.next x.toNat i s
  cases hb : x.getLsbD i
  ·have hv := hnx false hb
   simp only [Bool.false_eq_true, if_true, if_false] at hv
   refine Sx.seq fun K8 hK8 => wp_block (Sx.seq fun K9 hK9 => Sp fun _ kk => ?_)
   iterate 2 (refine Av F ?_; intro A F)
   refine Zv F (d_ixR (k := i) el_54 F rfl rfl rfl (rfl) (by omega)) fun A F => ?_
   refine Zv F (d_loadR (i := 0) (v := iI ((x.getLsbD i).toNat)) one_3 F H rfl rfl rfl (Bi.at_ _ _ _ (by omega))) fun A F => ?_
   refine Zv F (Bn bF F rfl rfl rfl (i_eq (by rw [hb]; rfl))) fun A F => ?_
   refine Nl kk (condF F rfl (wp_skip (hK9 _ _ (Sx.plain ?_))))
   refine Zw F (Dc if_36 F H (mtwice_c g3 (Rj.pm i) _ (Mt.At.box (H.box 0 g3 _ rfl).1))) fun A w F H => ?_
   refine Zt F (d_store (i := 0) (xs := (Mt.cells (fun j => Xj.comb (Rj.pm i) ((Rj.pm i) j) 256))) (us := (Mt.cells (fun j => Xj.comb (Rj.pm i) ((Rj.pm i) j) 256))) sz_102 F H rfl rfl rfl rfl (Mt.len _) (Mt.ones _) rfl (by rw [Mt.len]; decide) (Mt.splice_all _ _)) fun A w F (H : Sx.Own w0 _ [(true, g3, (Mt.cells (fun j => Xj.comb (Rj.pm i) ((Rj.pm i) j) 256))), (true, g2, [iU 0, iU 0, iU 0, iU 0]), (true, g1, [iU ((Xo.it (x.toNat % 2 ^ i) s).a.toNat), iU ((Xo.it (x.toNat % 2 ^ i) s).b.toNat), iU ((Xo.it (x.toNat % 2 ^ i) s).c.toNat), iU ((Xo.it (x.toNat % 2 ^ i) s).d.toNat)])] [⟨true, sL lg 0 n lc, 3, 1, n, (Bi.bis (BitVec.getLsbD x) n)⟩]) => ?_
   refine Sx.nil (hK8 _ _ (Sx.plain ?_))
   refine Av F fun A F => ?_
   refine Zv F (Bn (iI (i + 1 : Nat)) F rfl rfl rfl (i_addN rfl (in_i64 _ (by omega)))) fun A F => ?_
   refine Av F fun A F => ?_
   refine Sx.nil ?_
   try dsimp only [Exit.then, Exit.noGoto]
   exact ⟨n - (i + 1), by omega, i + 1, (sL lg 0 n lc), rfl, by omega, F.to ⟨rfl, rfl, rfl, rfl, rfl, trivial⟩, by rw [hv, ← Rj.twice i]; exact H⟩
  ·have hv := hnx true hb
   simp only [Bool.false_eq_true, if_true, if_false] at hv
   refine Sx.seq fun K11 hK11 => wp_block (Sx.seq fun K12 hK12 => Sp fun _ kk => ?_)
   iterate 2 (refine Av F ?_; intro A F)
   refine Zv F (d_ixR (k := i) el_54 F rfl rfl rfl (rfl) (by omega)) fun A F => ?_
   refine Zv F (d_loadR (i := 0) (v := iI ((x.getLsbD i).toNat)) one_3 F H rfl rfl rfl (Bi.at_ _ _ _ (by omega))) fun A F => ?_
   refine Zv F (Bn bT F rfl rfl rfl (i_eq (by rw [hb]; rfl))) fun A F => ?_
   refine Nl kk (condT F rfl (Sx.plain ?_))
   refine Av F fun A F => ?_
   refine Zw F (Dc if_35 F H (mof_c g3 (Rj.pm i) (Xo.it (x.toNat % 2 ^ i) s) _ (Mt.At.box (H.box 0 g3 _ rfl).1))) fun A w F H => ?_
   refine Zt F (d_store (i := 2) (xs := [iU ((Xj.comb (Rj.pm i) (Xo.it (x.toNat % 2 ^ i) s) 256).a.toNat), iU ((Xj.comb (Rj.pm i) (Xo.it (x.toNat % 2 ^ i) s) 256).b.toNat), iU ((Xj.comb (Rj.pm i) (Xo.it (x.toNat % 2 ^ i) s) 256).c.toNat), iU ((Xj.comb (Rj.pm i) (Xo.it (x.toNat % 2 ^ i) s) 256).d.toNat)]) (us := [iU ((Xj.comb (Rj.pm i) (Xo.it (x.toNat % 2 ^ i) s) 256).a.toNat), iU ((Xj.comb (Rj.pm i) (Xo.it (x.toNat % 2 ^ i) s) 256).b.toNat), iU ((Xj.comb (Rj.pm i) (Xo.it (x.toNat % 2 ^ i) s) 256).c.toNat), iU ((Xj.comb (Rj.pm i) (Xo.it (x.toNat % 2 ^ i) s) 256).d.toNat)]) sz_23 F H rfl rfl rfl rfl rfl rfl rfl (Nat.le_of_ble_eq_true rfl) rfl) fun A w F (H : Sx.Own w0 _ [(true, g3, (Mt.cells (Rj.pm i))), (true, g2, [iU 0, iU 0, iU 0, iU 0]), (true, g1, [iU ((Xj.comb (Rj.pm i) (Xo.it (x.toNat % 2 ^ i) s) 256).a.toNat), iU ((Xj.comb (Rj.pm i) (Xo.it (x.toNat % 2 ^ i) s) 256).b.toNat), iU ((Xj.comb (Rj.pm i) (Xo.it (x.toNat % 2 ^ i) s) 256).c.toNat), iU ((Xj.comb (Rj.pm i) (Xo.it (x.toNat % 2 ^ i) s) 256).d.toNat)])] [⟨true, sL lg 0 n lc, 3, 1, n, (Bi.bis (BitVec.getLsbD x) n)⟩]) => ?_
   refine Sx.nil (hK12 _ _ (Sx.plain ?_))
   refine Zw F (Dc if_36 F H (mtwice_c g3 (Rj.pm i) _ (Mt.At.box (H.box 0 g3 _ rfl).1))) fun A w F H => ?_
   refine Zt F (d_store (i := 0) (xs := (Mt.cells (fun j => Xj.comb (Rj.pm i) ((Rj.pm i) j) 256))) (us := (Mt.cells (fun j => Xj.comb (Rj.pm i) ((Rj.pm i) j) 256))) sz_102 F H rfl rfl rfl rfl (Mt.len _) (Mt.ones _) rfl (by rw [Mt.len]; decide) (Mt.splice_all _ _)) fun A w F (H : Sx.Own w0 _ [(true, g3, (Mt.cells (fun j => Xj.comb (Rj.pm i) ((Rj.pm i) j) 256))), (true, g2, [iU 0, iU 0, iU 0, iU 0]), (true, g1, [iU ((Xj.comb (Rj.pm i) (Xo.it (x.toNat % 2 ^ i) s) 256).a.toNat), iU ((Xj.comb (Rj.pm i) (Xo.it (x.toNat % 2 ^ i) s) 256).b.toNat), iU ((Xj.comb (Rj.pm i) (Xo.it (x.toNat % 2 ^ i) s) 256).c.toNat), iU ((Xj.comb (Rj.pm i) (Xo.it (x.toNat % 2 ^ i) s) 256).d.toNat)])] [⟨true, sL lg 0 n lc, 3, 1, n, (Bi.bis (BitVec.getLsbD x) n)⟩]) => ?_
   refine Sx.nil (hK11 _ _ (Sx.plain ?_))
   refine Av F fun A F => ?_
   refine Zv F (Bn (iI (i + 1 : Nat)) F rfl rfl rfl (i_addN rfl (in_i64 _ (by omega)))) fun A F => ?_
   refine Av F fun A F => ?_
   refine Sx.nil ?_
   try dsimp only [Exit.then, Exit.noGoto]
   exact ⟨n - (i + 1), by omega, i + 1, (sL lg 0 n lc), rfl, by omega, F.to ⟨rfl, rfl, rfl, rfl, rfl, trivial⟩, by rw [hv, ← Rj.twice i]; exact H⟩
 ·have hie_i : n = i := by omega
  subst hie_i
  refine Sx.seq fun K14 hK14 => Sp fun _ kk => ?_
  iterate 2 (refine Av F ?_; intro A F)
  refine Zv F (d_len (i := 0) el_54 F H rfl rfl rfl) fun A F => ?_
  refine Zv F (Bn bF F rfl rfl rfl (i_lt (by simp))) fun A F => ?_
  refine Nl kk (condF F rfl (wp_exit ?_))
  try dsimp only [Exit.then, Exit.jump, Exit.noGoto]
  refine exit_here (hK4 _ _ (Sp fun _ kk => Av F fun A F => ?_))
  refine Zt F (d_store (i := 1) (xs := [iU ((Xo.it (x.toNat % 2 ^ n) s).a.toNat), iU ((Xo.it (x.toNat % 2 ^ n) s).b.toNat), iU ((Xo.it (x.toNat % 2 ^ n) s).c.toNat), iU ((Xo.it (x.toNat % 2 ^ n) s).d.toNat)]) (us := [iU ((Xo.it (x.toNat % 2 ^ n) s).a.toNat), iU ((Xo.it (x.toNat % 2 ^ n) s).b.toNat), iU ((Xo.it (x.toNat % 2 ^ n) s).c.toNat), iU ((Xo.it (x.toNat % 2 ^ n) s).d.toNat)]) sz_23 F H rfl rfl rfl rfl rfl rfl rfl (Nat.le_of_ble_eq_true rfl) rfl) fun A w F (H : Sx.Own w0 _ [(true, g3, (Mt.cells (Rj.pm n))), (true, g2, [iU ((Xo.it (x.toNat % 2 ^ n) s).a.toNat), iU ((Xo.it (x.toNat % 2 ^ n) s).b.toNat), iU ((Xo.it (x.toNat % 2 ^ n) s).c.toNat), iU ((Xo.it (x.toNat % 2 ^ n) s).d.toNat)]), (true, g1, [iU ((Xo.it (x.toNat % 2 ^ n) s).a.toNat), iU ((Xo.it (x.toNat % 2 ^ n) s).b.toNat), iU ((Xo.it (x.toNat % 2 ^ n) s).c.toNat), iU ((Xo.it (x.toNat % 2 ^ n) s).d.toNat)])] [⟨true, vl, 3, 1, n, (Bi.bis (BitVec.getLsbD x) n)⟩]) => ?_
  refine Nl kk (wp_ret ?_)
  try dsimp only [Exit.then, Exit.inBlock, Exit.jump, Exit.noGoto]
  refine ret1 F Tryz.results11 (res_row (i := 1) (xs := [iU ((Xo.it (x.toNat % 2 ^ n) s).a.toNat), iU ((Xo.it (x.toNat % 2 ^ n) s).b.toNat), iU ((Xo.it (x.toNat % 2 ^ n) s).c.toNat), iU ((Xo.it (x.toNat % 2 ^ n) s).d.toNat)]) rw_23 F H rfl rfl rfl rfl) ⟨?_, H.below⟩
  rw [Rj.full x n hn]
theorem r8jump_c (s : St) (x : BitVec 128) {lo : Nat} (v : Value) (w : World) (h : w.ownsRow lo 3 1 v 128 (Bi.bis (BitVec.getLsbD x) 128)) : Calls Tryz.prog 11 #[.agg #[.int .u64 s.a.toNat, .int .u64 s.b.toNat, .int .u64 s.c.toNat, .int .u64 s.d.toNat], v] w fun e w' => e = .returned (.agg #[.int .u64 ((Xo.it x.toNat s).a.toNat), .int .u64 ((Xo.it x.toNat s).b.toNat), .int .u64 ((Xo.it x.toNat s).c.toNat), .int .u64 ((Xo.it x.toNat s).d.toNat)]) ∧ Below w.heap.size w w' := by
  rcases row_form h with ⟨_, h0⟩ | ⟨g, cap, rfl, _, _, hcap, _, hc⟩
  · omega
  · exact r8jump_1 s x g cap _ hcap rfl (Bi.lenN_le _ _) w fun k hk => by rw [Nat.zero_add, hc k hk, Bi.at_ _ 128 k hk]
end
namespace Mx
def gamma : BitVec 64 := 0x9e3779b97f4a7c15#64
def t1 : BitVec 64 := 0xbf58476d1ce4e5b9#64
def t2 : BitVec 64 := 0x94d049bb133111eb#64
def i1 : BitVec 64 := 0x96de1b173f119089#64
def i2 : BitVec 64 := 0x319642b2d24d8ec3#64
def sh (z : BitVec 64) (n : Nat) : BitVec 64 := z ^^^ z >>> n
def mix (z : BitVec 64) : BitVec 64 := sh (sh (sh z 30 * t1) 27 * t2) 31
def step (s : BitVec 64) : BitVec 64 := s + gamma
def back (s : BitVec 64) : BitVec 64 := s - gamma
def word (s : BitVec 64) : BitVec 64 := mix (step s)
def jump (s n : BitVec 64) : BitVec 64 := s + n * gamma
theorem xx (a e : BitVec 64) : a ^^^ e ^^^ e = a := by rw [BitVec.xor_assoc, BitVec.xor_self, BitVec.xor_zero]
theorem back_step (s : BitVec 64) : back (step s) = s := by unfold back step; exact BitVec.add_sub_cancel ..
end Mx
def inv64 (n : BitVec 64) : Nat → BitVec 64
  | 0 => n
  | k + 1 => inv64 n k * (2 - n * inv64 n k)
set_option maxRecDepth 100000 in
theorem inverse64_c (n : BitVec 64) (w : World) :
    Calls Tryz.prog 164 #[.int .u64 n.toNat] w fun e w' =>
      e = .returned (.int .u64 (inv64 n 6).toNat) ∧ w = w' := by
  go_enter Tryz.func164, Tryz.ntmps164
  go_wp2
  go_loop [3, 5] (fun x i => ∃ k : Nat, k ≤ 6 ∧ i = .int .i64 k ∧ x = .int .u64 (inv64 n k).toNat) (fun _ i => 6 - (intOf i).toNat)
  case atStart => exact ⟨0, by omega, rfl, rfl⟩
  case round =>
    obtain ⟨k, hk, rfl, rfl⟩ := hrel
    by_cases hlt : k < 6
    · go_wp2
      go_round
      case rel => exact ⟨k + 1, by omega, by go_num, by simp only [IntKind.wrap_u64, w64, BitVec.ofInt_mul, oi_sub, oi_toNat]; rfl⟩
      case measure => simp [intOf]; omega
    · obtain rfl : k = 6 := by omega
      go_wp2
      go_ret
      exact ⟨rfl, rfl⟩
theorem minv1_c (w : World) : Calls Tryz.prog 164 #[.int .u64 13787848793156543929] w fun e w' => e = .returned (.int .u64 10871156337175269513) ∧ w = w' :=
  Calls.val (inverse64_c 0xbf58476d1ce4e5b9#64 w) rfl (by rw [show (inv64 0xbf58476d1ce4e5b9#64 6).toNat = 10871156337175269513 from by decide +kernel]; rfl)
theorem minv2_c (w : World) : Calls Tryz.prog 164 #[.int .u64 10723151780598845931] w fun e w' => e = .returned (.int .u64 3573116690164977347) ∧ w = w' :=
  Calls.val (inverse64_c 0x94d049bb133111eb#64 w) rfl (by rw [show (inv64 0x94d049bb133111eb#64 6).toNat = 3573116690164977347 from by decide +kernel]; rfl)
theorem mrounds_c (w : World) : Calls Tryz.prog 163 #[] w fun e w' =>
    e = .returned (.agg #[.int .i64 30, .int .u64 13787848793156543929, .int .u64 10871156337175269513, .int .i64 27, .int .u64 10723151780598845931, .int .u64 3573116690164977347, .int .i64 31, .int .u64 1, .int .u64 1]) ∧ Below w.heap.size w w' := by
  go_enter Tryz.func163, Tryz.ntmps163
  go_wp2_with fail
  refine (minv1_c _).mono ?_
  rintro e w' ⟨rfl, rfl⟩
  go_wp2_with fail
  refine (minv2_c _).mono ?_
  rintro e w' ⟨rfl, rfl⟩
  go_wp2
  refine bodyPost_ret (v := .agg #[.int .i64 30, .int .u64 13787848793156543929, .int .u64 10871156337175269513, .int .i64 27, .int .u64 10723151780598845931, .int .u64 3573116690164977347, .int .i64 31, .int .u64 1, .int .u64 1]) (by simp [results, Tryz.results163, go_sem, *]) rfl ?_
  exact ⟨rfl, by (repeat' (first | (with_reducible exact Below.refl _ _) | (with_reducible assumption) | (with_reducible refine Below.alloc ?_ ?_ _) | (with_reducible refine Below.drew ?_) | (with_reducible refine below_drewN ?_ _) | (with_reducible refine Below.setCell ?_ ?_ _) | (with_reducible refine Below.trans ?_ (Below.mono (by assumption) ?_)) | go_size))⟩
theorem shw (a : BitVec 64) (n : Nat) (c : Int) (hc : c = ((2 ^ n : Nat) : Int)) : bits .xor .u64 (a.toNat : Int) ((a.toNat : Int) / c) = ((Mx.sh a n).toNat : Int) := by
  rw [hc, shr64, xor64]; rfl
theorem sh30 (a : BitVec 64) : bits .xor .u64 (a.toNat : Int) ((a.toNat : Int) / 1073741824) = ((Mx.sh a 30).toNat : Int) := shw a 30 _ (by decide)
theorem sh27 (a : BitVec 64) : bits .xor .u64 (a.toNat : Int) ((a.toNat : Int) / 134217728) = ((Mx.sh a 27).toNat : Int) := shw a 27 _ (by decide)
theorem sh31 (a : BitVec 64) : bits .xor .u64 (a.toNat : Int) ((a.toNat : Int) / 2147483648) = ((Mx.sh a 31).toNat : Int) := shw a 31 _ (by decide)
theorem mt1 (a : BitVec 64) : IntKind.u64.wrap ((a.toNat : Int) * 13787848793156543929) = ((a * Mx.t1).toNat : Int) := by
  rw [IntKind.wrap_u64, show (13787848793156543929 : Int) = (Mx.t1.toNat : Int) from by decide, mul64]
theorem mt2 (a : BitVec 64) : IntKind.u64.wrap ((a.toNat : Int) * 10723151780598845931) = ((a * Mx.t2).toNat : Int) := by
  rw [IntKind.wrap_u64, show (10723151780598845931 : Int) = (Mx.t2.toNat : Int) from by decide, mul64]
theorem wid (a : BitVec 64) : IntKind.u64.wrap (a.toNat : Int) = (a.toNat : Int) := by
  rw [IntKind.wrap_u64]; have := a.isLt; omega
set_option maxRecDepth 100000 in
set_option maxHeartbeats 1000000 in
theorem mmix_c (z : BitVec 64) (w : World) : Calls Tryz.prog 160 #[.int .u64 z.toNat] w fun e w' =>
    e = .returned (.int .u64 (Mx.mix z).toNat) ∧ Below w.heap.size w w' := by
  have x0 : ∀ w, (Instr.index 249 (.agg #[.int .i64 30, .int .u64 13787848793156543929, .int .u64 10871156337175269513, .int .i64 27, .int .u64 10723151780598845931, .int .u64 3573116690164977347, .int .i64 31, .int .u64 1, .int .u64 1]) (.int .i64 0)).run Tryz.prog w = .ok (.agg #[.int .i64 30, .int .u64 13787848793156543929, .int .u64 10871156337175269513]) w := fun _ => by kernel_rfl
  have x1 : ∀ w, (Instr.index 249 (.agg #[.int .i64 30, .int .u64 13787848793156543929, .int .u64 10871156337175269513, .int .i64 27, .int .u64 10723151780598845931, .int .u64 3573116690164977347, .int .i64 31, .int .u64 1, .int .u64 1]) (.int .i64 1)).run Tryz.prog w = .ok (.agg #[.int .i64 27, .int .u64 10723151780598845931, .int .u64 3573116690164977347]) w := fun _ => by kernel_rfl
  have x2 : ∀ w, (Instr.index 249 (.agg #[.int .i64 30, .int .u64 13787848793156543929, .int .u64 10871156337175269513, .int .i64 27, .int .u64 10723151780598845931, .int .u64 3573116690164977347, .int .i64 31, .int .u64 1, .int .u64 1]) (.int .i64 2)).run Tryz.prog w = .ok (.agg #[.int .i64 31, .int .u64 1, .int .u64 1]) w := fun _ => by kernel_rfl
  go_enter Tryz.func160, Tryz.ntmps160
  go_wp2_with fail
  refine (mrounds_c _).mono ?_
  rintro e w1 ⟨rfl, hb1⟩
  have hz1 := hb1.size
  go_wp2
  refine wp_loop_rounds 4 ?_
  rw [rounds_succ]
  go_wp2
  go_quiet (fail)
  go_wp2
  rw [rounds_succ]
  go_wp2
  go_quiet (fail)
  go_wp2
  rw [rounds_succ]
  go_wp2
  go_quiet (fail)
  go_wp2
  rw [rounds_succ]
  go_wp2
  go_ret
  exact ⟨ret_int (by rw [sh30, mt1, sh27, mt2, sh31, wid]; rfl), by (repeat' (first | (with_reducible exact Below.refl _ _) | (with_reducible assumption) | (with_reducible refine Below.alloc ?_ ?_ _) | (with_reducible refine Below.drew ?_) | (with_reducible refine below_drewN ?_ _) | (with_reducible refine Below.setCell ?_ ?_ _) | (with_reducible refine Below.trans ?_ (Below.mono (by assumption) ?_)) | go_size))⟩
namespace Mx
def b1 (a : BitVec 64) : BitVec 64 := a * i1
def b2 (a : BitVec 64) : BitVec 64 := a * i2
end Mx
section
theorem mg1 (a : BitVec 64) : IntKind.u64.wrap ((a.toNat : Int) + 11400714819323198485) = ((Mx.step a).toNat : Int) := by
  rw [IntKind.wrap_u64, show (11400714819323198485 : Int) = (Mx.gamma.toNat : Int) from by decide, add64]; rfl
theorem mg2 (a : BitVec 64) : IntKind.u64.wrap ((a.toNat : Int) - 11400714819323198485) = ((Mx.back a).toNat : Int) := by
  rw [IntKind.wrap_u64, show (11400714819323198485 : Int) = (Mx.gamma.toNat : Int) from by decide, sub64]; rfl
attribute [local go_sem] mg1 mg2
theorem mstep_c (s : BitVec 64) (w : World) : Calls Tryz.prog 150 #[.int .u64 s.toNat] w fun e w' => e = .returned (.int .u64 (Mx.step s).toNat) ∧ w = w' := by
  go_enter Tryz.func150, Tryz.ntmps150
  go_wp2
  go_ret
  exact ⟨rfl, rfl⟩
theorem mword_c (s : BitVec 64) (w : World) : Calls Tryz.prog 149 #[.int .u64 s.toNat] w fun e w' => e = .returned (.int .u64 (Mx.word s).toNat) ∧ Below w.heap.size w w' := by
  go_enter Tryz.func149, Tryz.ntmps149
  go_wp2_with fail
  refine (mstep_c _ _).mono ?_
  rintro e w' ⟨rfl, rfl⟩
  go_wp2_with fail
  refine (mmix_c _ _).mono ?_
  rintro e w1 ⟨rfl, hb1⟩
  go_wp2
  go_ret
  exact ⟨rfl, by (repeat' (first | (with_reducible exact Below.refl _ _) | (with_reducible assumption) | (with_reducible refine Below.alloc ?_ ?_ _) | (with_reducible refine Below.drew ?_) | (with_reducible refine below_drewN ?_ _) | (with_reducible refine Below.setCell ?_ ?_ _) | (with_reducible refine Below.trans ?_ (Below.mono (by assumption) ?_)) | go_size))⟩
end
section
def Mx.plus (a b : BitVec 64) : BitVec 64 := a + b
theorem mj_sum (a b : BitVec 64) : IntKind.u64.wrap ((a.toNat : Int) + (b.toNat : Int)) = ((Mx.plus a b).toNat : Int) := by rw [IntKind.wrap_u64, add64]; rfl
attribute [local go_sem] mj_sum
set_option maxRecDepth 100000 in
theorem mjump_c (s : BitVec 64) (n : BitVec 128) (w : World) :
    Calls Tryz.prog 190 #[.int .u64 s.toNat, .agg #[.int .u64 (Wd.hi n).toNat, .int .u64 (Wd.lo n).toNat]] w fun e w' => e = .returned (.int .u64 (Mx.jump s (Wd.lo n)).toNat) ∧ Below w.heap.size w w' := by
  have D1 := Lib.hid (show ∀ w, Calls Tryz.prog 15 #[.int .u64 11400714819323198485] w fun e w' => e = .returned (.agg #[.int .u64 (Wd.hi (Wd.of Mx.gamma)).toNat, .int .u64 (Wd.lo (Wd.of Mx.gamma)).toNat]) ∧ Below w.heap.size w w' from
    fun w => Calls.val (wofV_c Mx.gamma w) rfl rfl)
  have D2 := Lib.hid (fun w => wmul_c n (Wd.of Mx.gamma) w)
  have L := Lib.hid (show Mx.plus s (Wd.lo (n * Wd.of Mx.gamma)) = Mx.jump s (Wd.lo n) from by
    unfold Mx.plus
    rw [← Wd.mul_lo, Wd.of, Wd.lo_mk, Mx.jump]; congr 1
    apply BitVec.eq_of_toNat_eq
    rw [← Wd.full_lo, BitVec.toNat_mul])
  go_enter Tryz.func190, Tryz.ntmps190
  go_wp2_with fail
  refine wp_region_held_drew (S := (fun w' => (w'.cell? ⟨w.heap.size, 0, none⟩ = some (.int .u64 (Wd.hi n).toNat) ∧ w'.cell? ⟨w.heap.size, 1, none⟩ = some (.int .u64 (Wd.lo n).toNat)))) (by kernel_rfl) (by (try dsimp only); go_keep) (fun hHeld => ?_)
  first
    | (refine wpAnyH_take (i := 0) (v := ?_) (by (simp only [List.getElem?_toArray, List.getElem?_cons_zero, List.getElem?_cons_succ]; rfl)) (by kernel_rfl) (by kernel_rfl) (by kernel_rfl) (by (intro _ _ _ h; exact h)) (Or.inl ⟨by rfl, ?_⟩) (by assumption) ?_; rotate_left; intro w hSw; (try dsimp only at hSw); go_simp; (try with_reducible rfl))
    | (refine wpAnyH_take (i := 0) (v := undef) (by (simp only [List.getElem?_toArray, List.getElem?_cons_zero, List.getElem?_cons_succ]; rfl)) (by kernel_rfl) (by kernel_rfl) (by kernel_rfl) (by (intro _ _ _ h; exact h)) (Or.inr ⟨by rfl, rfl⟩) (by assumption) ?_)
  (try simp only [Act.put, List.setIfInBounds_toArray, List.set_cons_zero, List.set_cons_succ])
  first
    | (refine wpAnyH_take (i := 1) (v := ?_) (by (simp only [List.getElem?_toArray, List.getElem?_cons_zero, List.getElem?_cons_succ]; rfl)) (by kernel_rfl) (by kernel_rfl) (by kernel_rfl) (by (intro _ _ _ h; exact h)) (Or.inl ⟨by rfl, ?_⟩) (by assumption) ?_; rotate_left; intro w hSw; (try dsimp only at hSw); go_simp; (try with_reducible rfl))
    | (refine wpAnyH_take (i := 1) (v := undef) (by (simp only [List.getElem?_toArray, List.getElem?_cons_zero, List.getElem?_cons_succ]; rfl)) (by kernel_rfl) (by kernel_rfl) (by kernel_rfl) (by (intro _ _ _ h; exact h)) (Or.inr ⟨by rfl, rfl⟩) (by assumption) ?_)
  (try simp only [Act.put, List.setIfInBounds_toArray, List.set_cons_zero, List.set_cons_succ])
  refine wpAnyH_ready (rs := [2]) (by kernel_rfl) (by simp) (AllReadyH.cons (by (simp only [List.getElem?_toArray, List.getElem?_cons_zero, List.getElem?_cons_succ]; rfl)) (fun K hK => ?_) AllReadyH.nil)
  (try go_simp)
  refine (D1.out _).mono ?_; rintro e w' ⟨rfl, hb⟩; have hk := keep_cell hb; have hz := hb.size; (try simp at hz)
  go_wp2_with fail
  refine hK.out _ _ ?_ (fun hHeld => ?_)
  · (try dsimp only)
    go_keep
  clear hK K
  (try simp only [Act.put, List.setIfInBounds_toArray, List.set_cons_zero, List.set_cons_succ])
  refine wpAnyH_ready (rs := [3]) (by kernel_rfl) (by simp) (AllReadyH.cons (by (simp only [List.getElem?_toArray, List.getElem?_cons_zero, List.getElem?_cons_succ]; rfl)) (fun K hK => ?_) AllReadyH.nil)
  (try go_simp)
  refine (D2.out _).mono ?_; rintro e w' ⟨rfl, hb⟩; have hk := keep_cell hb; have hz := hb.size; (try simp at hz)
  go_wp2_with fail
  refine hK.out _ _ ?_ (fun hHeld => ?_)
  · (try dsimp only)
    go_keep
  clear hK K
  (try simp only [Act.put, List.setIfInBounds_toArray, List.set_cons_zero, List.set_cons_succ])
  first
    | (refine wpAnyH_take (i := 4) (v := ?_) (by (simp only [List.getElem?_toArray, List.getElem?_cons_zero, List.getElem?_cons_succ]; rfl)) (by kernel_rfl) (by kernel_rfl) (by kernel_rfl) (by (intro _ _ _ h; exact h)) (Or.inl ⟨by rfl, ?_⟩) (by assumption) ?_; rotate_left; intro w hSw; (try dsimp only at hSw); go_simp; (try with_reducible rfl))
    | (refine wpAnyH_take (i := 4) (v := undef) (by (simp only [List.getElem?_toArray, List.getElem?_cons_zero, List.getElem?_cons_succ]; rfl)) (by kernel_rfl) (by kernel_rfl) (by kernel_rfl) (by (intro _ _ _ h; exact h)) (Or.inr ⟨by rfl, rfl⟩) (by assumption) ?_)
  (try simp only [Act.put, List.setIfInBounds_toArray, List.set_cons_zero, List.set_cons_succ])
  first
    | (refine wpAnyH_take (i := 5) (v := ?_) (by (simp only [List.getElem?_toArray, List.getElem?_cons_zero, List.getElem?_cons_succ]; rfl)) (by kernel_rfl) (by kernel_rfl) (by kernel_rfl) (by (intro _ _ _ h; exact h)) (Or.inl ⟨by rfl, ?_⟩) (by assumption) ?_; rotate_left; intro w hSw; (try dsimp only at hSw); go_simp; (try with_reducible rfl))
    | (refine wpAnyH_take (i := 5) (v := undef) (by (simp only [List.getElem?_toArray, List.getElem?_cons_zero, List.getElem?_cons_succ]; rfl)) (by kernel_rfl) (by kernel_rfl) (by kernel_rfl) (by (intro _ _ _ h; exact h)) (Or.inr ⟨by rfl, rfl⟩) (by assumption) ?_)
  (try simp only [Act.put, List.setIfInBounds_toArray, List.set_cons_zero, List.set_cons_succ])
  first
    | (refine wpAnyH_take (i := 6) (v := ?_) (by (simp only [List.getElem?_toArray, List.getElem?_cons_zero, List.getElem?_cons_succ]; rfl)) (by kernel_rfl) (by kernel_rfl) (by kernel_rfl) (by (intro _ _ _ h; exact h)) (Or.inl ⟨by rfl, ?_⟩) (by assumption) ?_; rotate_left; intro w hSw; (try dsimp only at hSw); go_simp; (try with_reducible rfl))
    | (refine wpAnyH_take (i := 6) (v := undef) (by (simp only [List.getElem?_toArray, List.getElem?_cons_zero, List.getElem?_cons_succ]; rfl)) (by kernel_rfl) (by kernel_rfl) (by kernel_rfl) (by (intro _ _ _ h; exact h)) (Or.inr ⟨by rfl, rfl⟩) (by assumption) ?_)
  (try simp only [Act.put, List.setIfInBounds_toArray, List.set_cons_zero, List.set_cons_succ])
  refine wpAnyH_done (by kernel_rfl) ?_ _
  go_wp2
  go_ret
  exact ⟨by rw [← L.out]; rfl, by (repeat' (first | (with_reducible exact Below.refl _ _) | (with_reducible assumption) | (with_reducible refine Below.alloc ?_ ?_ _) | (with_reducible refine Below.drew ?_) | (with_reducible refine below_drewN ?_ _) | (with_reducible refine Below.setCell ?_ ?_ _) | (with_reducible refine Below.trans ?_ (Below.mono (by assumption) ?_)) | go_size))⟩
namespace Mx
def it : Nat → BitVec 64 → BitVec 64
  | 0, s => s
  | n + 1, s => step (it n s)
end Mx
end
namespace R1
abbrev B : BitVec 64 := 4294967296#64
theorem mB (p : BitVec 64) : (p % 4294967296#64).toNat = p.toNat % 4294967296 := by rw [BitVec.toNat_umod]; rfl
theorem dB (p : BitVec 64) : (p / 4294967296#64).toNat = p.toNat / 4294967296 := by rw [BitVec.toNat_udiv]; rfl
theorem whole_nat (d0 d1 d2 d3 : BitVec 64) (h0 : d0.toNat < 4294967296) (h1 : d1.toNat < 4294967296) (h2 : d2.toNat < 4294967296) (h3 : d3.toNat < 4294967296) :
    (Wd.mk (d2 + 4294967296#64 * d3) (d0 + 4294967296#64 * d1)).toNat = d0.toNat + 4294967296 * d1.toNat + 18446744073709551616 * d2.toNat + 79228162514264337593543950336 * d3.toNat := by
  rw [Wd.mk_nat, BitVec.toNat_add, BitVec.toNat_mul, BitVec.toNat_add, BitVec.toNat_mul]
  rw [show (4294967296#64 : BitVec 64).toNat = 4294967296 from rfl]
  omega
theorem dig_nat (a : BitVec 128) : a.toNat = (Wd.lo a).toNat % 4294967296 + 4294967296 * ((Wd.lo a).toNat / 4294967296) + 18446744073709551616 * ((Wd.hi a).toNat % 4294967296) + 79228162514264337593543950336 * ((Wd.hi a).toNat / 4294967296) := by
  rw [Wd.nat_split a]; omega
theorem sum3 (p q r n : BitVec 64) (h : p + q + r = n) (hp : p.toNat < 4294967296) (hq : q.toNat < 4294967296) (hr : r.toNat < 4294967296) : n.toNat = p.toNat + q.toNat + r.toNat := by
  rw [← h, BitVec.toNat_add, BitVec.toNat_add]; omega
theorem add_dig (a b : BitVec 128) (n0 n1 n2 n3 : BitVec 64) (h0 : Wd.lo a % 4294967296#64 + Wd.lo b % 4294967296#64 + 0#64 = n0) (h1 : Wd.lo a / 4294967296#64 + Wd.lo b / 4294967296#64 + n0 / 4294967296#64 = n1)
    (h2 : Wd.hi a % 4294967296#64 + Wd.hi b % 4294967296#64 + n1 / 4294967296#64 = n2) (h3 : Wd.hi a / 4294967296#64 + Wd.hi b / 4294967296#64 + n2 / 4294967296#64 = n3) :
    Wd.mk (n2 % 4294967296#64 + 4294967296#64 * (n3 % 4294967296#64)) (n0 % 4294967296#64 + 4294967296#64 * (n1 % 4294967296#64)) = a + b ∧ (((n3 / 4294967296#64).toNat : Int) == 1) = Wd.over a b := by
  have la := (Wd.lo a).isLt; have lb := (Wd.lo b).isLt; have ha := (Wd.hi a).isLt; have hb := (Wd.hi b).isLt
  have e0 := sum3 _ _ _ _ h0 (by rw [mB]; omega) (by rw [mB]; omega) (by decide)
  have e1 := sum3 _ _ _ _ h1 (by rw [dB]; omega) (by rw [dB]; omega) (by rw [dB]; rw [mB, mB] at e0; simp at e0; omega)
  have e2 := sum3 _ _ _ _ h2 (by rw [mB]; omega) (by rw [mB]; omega) (by rw [dB]; rw [dB, dB, dB] at e1; omega)
  have e3 := sum3 _ _ _ _ h3 (by rw [dB]; omega) (by rw [dB]; omega) (by rw [dB]; rw [mB, mB, dB] at e2; omega)
  rw [mB, mB] at e0; rw [dB, dB, dB] at e1; rw [mB, mB, dB] at e2; rw [dB, dB, dB] at e3
  have e0' : n0.toNat = (Wd.lo a).toNat % 4294967296 + (Wd.lo b).toNat % 4294967296 := by simpa using e0
  refine ⟨BitVec.eq_of_toNat_eq ?_, ?_⟩
  · rw [whole_nat _ _ _ _ (by rw [mB]; omega) (by rw [mB]; omega) (by rw [mB]; omega) (by rw [mB]; omega), BitVec.toNat_add, dig_nat a, dig_nat b, mB, mB, mB, mB]
    omega
  · unfold Wd.over
    rw [dB, dig_nat a, dig_nat b]
    rw [Bool.eq_iff_iff]
    simp only [beq_iff_eq, decide_eq_true_eq]
    omega
theorem step3 (z x y c n : BitVec 64) (h : z + x * y + c = n) (hz : z.toNat < 4294967296) (hx : x.toNat < 4294967296) (hy : y.toNat < 4294967296) (hc : c.toNat < 4294967296) :
    n.toNat = z.toNat + x.toNat * y.toNat + c.toNat ∧ n.toNat / 4294967296 < 4294967296 := by
  have hxy : x.toNat * y.toNat ≤ 4294967295 * 4294967295 := Nat.mul_le_mul (by omega) (by omega)
  rw [← h, BitVec.toNat_add, BitVec.toNat_add, BitVec.toNat_mul]
  generalize x.toNat * y.toNat = p at hxy ⊢
  omega
theorem row4 (p0 p1 p2 p3 z0 z1 z2 z3 n0 n1 n2 n3 : Nat) (h0 : n0 = z0 + p0 + 0) (h1 : n1 = z1 + p1 + n0 / 4294967296) (h2 : n2 = z2 + p2 + n1 / 4294967296) (h3 : n3 = z3 + p3 + n2 / 4294967296) :
    (z0 + 4294967296 * z1 + 18446744073709551616 * z2 + 79228162514264337593543950336 * z3 + (p0 + 4294967296 * p1 + 18446744073709551616 * p2 + 79228162514264337593543950336 * p3)) % 340282366920938463463374607431768211456 = n0 % 4294967296 + 4294967296 * (n1 % 4294967296) + 18446744073709551616 * (n2 % 4294967296) + 79228162514264337593543950336 * (n3 % 4294967296) := by omega
theorem row3 (p0 p1 p2 z1 z2 z3 n0 n1 n2 : Nat) (h0 : n0 = z1 + p0 + 0) (h1 : n1 = z2 + p1 + n0 / 4294967296) (h2 : n2 = z3 + p2 + n1 / 4294967296) :
    (z1 + 4294967296 * z2 + 18446744073709551616 * z3 + (p0 + 4294967296 * p1 + 18446744073709551616 * p2)) % 79228162514264337593543950336 = n0 % 4294967296 + 4294967296 * (n1 % 4294967296) + 18446744073709551616 * (n2 % 4294967296) := by omega
theorem row2 (p0 p1 z2 z3 n0 n1 : Nat) (h0 : n0 = z2 + p0 + 0) (h1 : n1 = z3 + p1 + n0 / 4294967296) : (z2 + 4294967296 * z3 + (p0 + 4294967296 * p1)) % 18446744073709551616 = n0 % 4294967296 + 4294967296 * (n1 % 4294967296) := by omega
theorem expand (x0 x1 x2 x3 y0 y1 y2 y3 : Nat) : (x0 + 4294967296 * x1 + 18446744073709551616 * x2 + 79228162514264337593543950336 * x3) * (y0 + 4294967296 * y1 + 18446744073709551616 * y2 + 79228162514264337593543950336 * y3) % 340282366920938463463374607431768211456 =
    ((x0 * y0 + 4294967296 * (x0 * y1) + 18446744073709551616 * (x0 * y2) + 79228162514264337593543950336 * (x0 * y3)) + 4294967296 * (x1 * y0 + 4294967296 * (x1 * y1) + 18446744073709551616 * (x1 * y2)) + 18446744073709551616 * (x2 * y0 + 4294967296 * (x2 * y1)) + 79228162514264337593543950336 * (x3 * y0)) % 340282366920938463463374607431768211456 := by
  simp only [Nat.add_mul, Nat.mul_add, Nat.mul_assoc]
  rw [Nat.mul_left_comm x0, Nat.mul_left_comm x0, Nat.mul_left_comm x0, Nat.mul_left_comm x1, Nat.mul_left_comm x1, Nat.mul_left_comm x1, Nat.mul_left_comm x2, Nat.mul_left_comm x2, Nat.mul_left_comm x2, Nat.mul_left_comm x3, Nat.mul_left_comm x3, Nat.mul_left_comm x3]
  generalize x0 * y0 = a00; generalize x0 * y1 = a01; generalize x0 * y2 = a02; generalize x0 * y3 = a03
  generalize x1 * y0 = a10; generalize x1 * y1 = a11; generalize x1 * y2 = a12; generalize x1 * y3 = a13
  generalize x2 * y0 = a20; generalize x2 * y1 = a21; generalize x2 * y2 = a22; generalize x2 * y3 = a23
  generalize x3 * y0 = a30; generalize x3 * y1 = a31; generalize x3 * y2 = a32; generalize x3 * y3 = a33
  omega
theorem comb (S0 S1 S2 p30 a0 a1 a2 a3 b1 b2 b3 c2 c3 d3 n30 : Nat) (r4 : S0 % 340282366920938463463374607431768211456 = a0 + 4294967296 * a1 + 18446744073709551616 * a2 + 79228162514264337593543950336 * a3)
    (r3 : (a1 + 4294967296 * a2 + 18446744073709551616 * a3 + S1) % 79228162514264337593543950336 = b1 + 4294967296 * b2 + 18446744073709551616 * b3)
    (r2 : (b2 + 4294967296 * b3 + S2) % 18446744073709551616 = c2 + 4294967296 * c3) (r1 : n30 = c3 + p30) (hd : d3 = n30 % 4294967296) (ha0 : a0 < 4294967296) (hb1 : b1 < 4294967296) (hc2 : c2 < 4294967296) :
    (S0 + 4294967296 * S1 + 18446744073709551616 * S2 + 79228162514264337593543950336 * p30) % 340282366920938463463374607431768211456 = a0 + 4294967296 * b1 + 18446744073709551616 * c2 + 79228162514264337593543950336 * d3 := by omega
theorem mul_dig (a b : BitVec 128) (n00 n01 n02 n03 n10 n11 n12 n20 n21 n30 : BitVec 64)
    (h00 : (0#64) + (Wd.lo a % 4294967296#64) * (Wd.lo b % 4294967296#64) + (0#64) = n00)
    (h01 : (0#64) + (Wd.lo a % 4294967296#64) * (Wd.lo b / 4294967296#64) + (n00 / 4294967296#64) = n01)
    (h02 : (0#64) + (Wd.lo a % 4294967296#64) * (Wd.hi b % 4294967296#64) + (n01 / 4294967296#64) = n02)
    (h03 : (0#64) + (Wd.lo a % 4294967296#64) * (Wd.hi b / 4294967296#64) + (n02 / 4294967296#64) = n03)
    (h10 : (n01 % 4294967296#64) + (Wd.lo a / 4294967296#64) * (Wd.lo b % 4294967296#64) + (0#64) = n10)
    (h11 : (n02 % 4294967296#64) + (Wd.lo a / 4294967296#64) * (Wd.lo b / 4294967296#64) + (n10 / 4294967296#64) = n11)
    (h12 : (n03 % 4294967296#64) + (Wd.lo a / 4294967296#64) * (Wd.hi b % 4294967296#64) + (n11 / 4294967296#64) = n12)
    (h20 : (n11 % 4294967296#64) + (Wd.hi a % 4294967296#64) * (Wd.lo b % 4294967296#64) + (0#64) = n20)
    (h21 : (n12 % 4294967296#64) + (Wd.hi a % 4294967296#64) * (Wd.lo b / 4294967296#64) + (n20 / 4294967296#64) = n21)
    (h30 : (n21 % 4294967296#64) + (Wd.hi a / 4294967296#64) * (Wd.lo b % 4294967296#64) + (0#64) = n30) :
    Wd.mk (n20 % 4294967296#64 + 4294967296#64 * (n30 % 4294967296#64)) (n00 % 4294967296#64 + 4294967296#64 * (n10 % 4294967296#64)) = a * b := by
  have la := (Wd.lo a).isLt; have lb := (Wd.lo b).isLt; have ha := (Wd.hi a).isLt; have hb := (Wd.hi b).isLt
  obtain ⟨x0, ex0⟩ : ∃ q, Wd.lo a % 4294967296#64 = q := ⟨_, rfl⟩
  have bx0 : x0.toNat < 4294967296 := by rw [← ex0, mB]; omega
  have kx0 : x0.toNat = (Wd.lo a).toNat % 4294967296 := by rw [← ex0, mB]
  obtain ⟨x1, ex1⟩ : ∃ q, Wd.lo a / 4294967296#64 = q := ⟨_, rfl⟩
  have bx1 : x1.toNat < 4294967296 := by rw [← ex1, dB]; omega
  have kx1 : x1.toNat = (Wd.lo a).toNat / 4294967296 := by rw [← ex1, dB]
  obtain ⟨x2, ex2⟩ : ∃ q, Wd.hi a % 4294967296#64 = q := ⟨_, rfl⟩
  have bx2 : x2.toNat < 4294967296 := by rw [← ex2, mB]; omega
  have kx2 : x2.toNat = (Wd.hi a).toNat % 4294967296 := by rw [← ex2, mB]
  obtain ⟨x3, ex3⟩ : ∃ q, Wd.hi a / 4294967296#64 = q := ⟨_, rfl⟩
  have bx3 : x3.toNat < 4294967296 := by rw [← ex3, dB]; omega
  have kx3 : x3.toNat = (Wd.hi a).toNat / 4294967296 := by rw [← ex3, dB]
  obtain ⟨y0, ey0⟩ : ∃ q, Wd.lo b % 4294967296#64 = q := ⟨_, rfl⟩
  have by0 : y0.toNat < 4294967296 := by rw [← ey0, mB]; omega
  have ky0 : y0.toNat = (Wd.lo b).toNat % 4294967296 := by rw [← ey0, mB]
  obtain ⟨y1, ey1⟩ : ∃ q, Wd.lo b / 4294967296#64 = q := ⟨_, rfl⟩
  have by1 : y1.toNat < 4294967296 := by rw [← ey1, dB]; omega
  have ky1 : y1.toNat = (Wd.lo b).toNat / 4294967296 := by rw [← ey1, dB]
  obtain ⟨y2, ey2⟩ : ∃ q, Wd.hi b % 4294967296#64 = q := ⟨_, rfl⟩
  have by2 : y2.toNat < 4294967296 := by rw [← ey2, mB]; omega
  have ky2 : y2.toNat = (Wd.hi b).toNat % 4294967296 := by rw [← ey2, mB]
  obtain ⟨y3, ey3⟩ : ∃ q, Wd.hi b / 4294967296#64 = q := ⟨_, rfl⟩
  have by3 : y3.toNat < 4294967296 := by rw [← ey3, dB]; omega
  have ky3 : y3.toNat = (Wd.hi b).toNat / 4294967296 := by rw [← ey3, dB]
  have z0 : (0#64 : BitVec 64).toNat < 4294967296 := by decide
  have m (p : BitVec 64) : (p % 4294967296#64).toNat < 4294967296 := by rw [mB]; omega
  rw [ex0, ey0] at h00
  obtain ⟨e00, c00⟩ := step3 _ _ _ _ _ h00 z0 bx0 by0 z0
  rw [ex0, ey1] at h01
  obtain ⟨e01, c01⟩ := step3 _ _ _ _ _ h01 z0 bx0 by1 (by rw [dB]; exact c00)
  rw [ex0, ey2] at h02
  obtain ⟨e02, c02⟩ := step3 _ _ _ _ _ h02 z0 bx0 by2 (by rw [dB]; exact c01)
  rw [ex0, ey3] at h03
  obtain ⟨e03, c03⟩ := step3 _ _ _ _ _ h03 z0 bx0 by3 (by rw [dB]; exact c02)
  rw [ex1, ey0] at h10
  obtain ⟨e10, c10⟩ := step3 _ _ _ _ _ h10 (m _) bx1 by0 z0
  rw [ex1, ey1] at h11
  obtain ⟨e11, c11⟩ := step3 _ _ _ _ _ h11 (m _) bx1 by1 (by rw [dB]; exact c10)
  rw [ex1, ey2] at h12
  obtain ⟨e12, c12⟩ := step3 _ _ _ _ _ h12 (m _) bx1 by2 (by rw [dB]; exact c11)
  rw [ex2, ey0] at h20
  obtain ⟨e20, c20⟩ := step3 _ _ _ _ _ h20 (m _) bx2 by0 z0
  rw [ex2, ey1] at h21
  obtain ⟨e21, c21⟩ := step3 _ _ _ _ _ h21 (m _) bx2 by1 (by rw [dB]; exact c20)
  rw [ex3, ey0] at h30
  obtain ⟨e30, c30⟩ := step3 _ _ _ _ _ h30 (m _) bx3 by0 z0
  rw [show (0#64 : BitVec 64).toNat = 0 from rfl] at *
  rw [dB] at e01
  rw [dB] at e02
  rw [dB] at e03
  rw [mB] at e10
  rw [mB, dB] at e11
  rw [mB, dB] at e12
  rw [mB] at e20
  rw [mB, dB] at e21
  rw [mB] at e30
  have r4 := row4 (x0.toNat * y0.toNat) (x0.toNat * y1.toNat) (x0.toNat * y2.toNat) (x0.toNat * y3.toNat) 0 0 0 0 _ _ _ _ e00 e01 e02 e03
  have r3 := row3 (x1.toNat * y0.toNat) (x1.toNat * y1.toNat) (x1.toNat * y2.toNat) _ _ _ _ _ _ e10 e11 e12
  have r2 := row2 (x2.toNat * y0.toNat) (x2.toNat * y1.toNat) _ _ _ _ e20 e21
  refine BitVec.eq_of_toNat_eq ?_
  rw [whole_nat _ _ _ _ (m _) (m _) (m _) (m _), BitVec.toNat_mul, dig_nat a, dig_nat b, ← kx0, ← kx1, ← kx2, ← kx3, ← ky0, ← ky1, ← ky2, ← ky3]
  rw [show (2 ^ 128 : Nat) = 340282366920938463463374607431768211456 from rfl, expand, mB, mB, mB, mB]
  simp only [Nat.zero_add, Nat.mul_zero, Nat.add_zero] at r4 e30
  exact (comb _ _ _ _ _ _ _ _ _ _ _ _ _ _ _ r4 r3 r2 e30 rfl (Nat.mod_lt _ (by omega)) (Nat.mod_lt _ (by omega)) (Nat.mod_lt _ (by omega))).symm
theorem cB (p : BitVec 64) (h : p.toNat < 4294967296) : (4294967295#64 - p).toNat = 4294967295 - p.toNat := by
  rw [BitVec.toNat_sub, show (4294967295#64 : BitVec 64).toNat = 4294967295 from rfl]; omega
theorem compl (b : BitVec 128) : (Wd.mk ((4294967295#64 - Wd.hi b % 4294967296#64) + 4294967296#64 * (4294967295#64 - Wd.hi b / 4294967296#64)) ((4294967295#64 - Wd.lo b % 4294967296#64) + 4294967296#64 * (4294967295#64 - Wd.lo b / 4294967296#64))).toNat = 340282366920938463463374607431768211455 - b.toNat := by
  have lb := (Wd.lo b).isLt; have hb := (Wd.hi b).isLt
  have m (p : BitVec 64) : (p % 4294967296#64).toNat < 4294967296 := by rw [mB]; omega
  have d (p : BitVec 64) : (p / 4294967296#64).toNat < 4294967296 := by rw [dB]; have := p.isLt; omega
  rw [whole_nat _ _ _ _ (by rw [cB _ (m _)]; omega) (by rw [cB _ (d _)]; omega) (by rw [cB _ (m _)]; omega) (by rw [cB _ (d _)]; omega), cB _ (m _), cB _ (d _), cB _ (m _), cB _ (d _), mB, dB, mB, dB, dig_nat b]
  omega
theorem sub_dig (a b X : BitVec 128) (h : X.toNat = 340282366920938463463374607431768211455 - b.toNat) : a + X + 1#128 = a - b := by
  apply BitVec.eq_of_toNat_eq
  have ha := a.isLt; have hb := b.isLt
  rw [BitVec.toNat_add, BitVec.toNat_add, BitVec.toNat_sub, h, show (1#128 : BitVec 128).toNat = 1 from rfl]
  omega
theorem less_t {a b : BitVec 128} (h : (Wd.hi a).toNat < (Wd.hi b).toNat) : Wd.less a b = true := by
  unfold Wd.less; rw [Wd.nat_split a, Wd.nat_split b]; have := (Wd.lo a).isLt; have := (Wd.lo b).isLt; exact decide_eq_true (by omega)
theorem less_g {a b : BitVec 128} (h : (Wd.hi b).toNat < (Wd.hi a).toNat) : Wd.less a b = false := by
  unfold Wd.less; rw [Wd.nat_split a, Wd.nat_split b]; have := (Wd.lo a).isLt; have := (Wd.lo b).isLt; exact decide_eq_false (by omega)
theorem less_e {a b : BitVec 128} (h : (Wd.hi a).toNat = (Wd.hi b).toNat) : Wd.less a b = decide ((Wd.lo a).toNat < (Wd.lo b).toNat) := by
  unfold Wd.less; rw [Wd.nat_split a, Wd.nat_split b, h]; exact decide_eq_decide.2 (by omega)
end R1
open Sx in
theorem rdigits_c (da : BitVec 128) (w0 : World) : Calls Tryz.prog 63 #[.agg #[uH da, uL da]] w0 fun e w' => e = .returned (.agg #[uN (Wd.lo da % 4294967296#64), uN (Wd.lo da / 4294967296#64), uN (Wd.hi da % 4294967296#64), uN (Wd.hi da / 4294967296#64)]) ∧ Below w0.heap.size w0 w' := by
 refine En Tryz.func63 Tryz.ntmps63 fun A F => ?_
 have H := Sx.Own.start w0
 refine Sp fun _ kk => Zb F (d_box F H rfl rfl [uH da, uL da] rfl) fun g1 A w F H => ?_
 refine Zb F (d_alloc H rfl [iU 0, iU 0, iU 0, iU 0] zero_23) fun g2 A w F H => ?_
 refine Nl kk (Sp fun _ kk => ?_)
 iterate 2 (refine Av F ?_; intro A F)
 refine Zv F (Bn (uN ((Wd.lo da) % 4294967296#64)) F rfl rfl rfl (i_rem64 (Wd.lo da) 4294967296#64 (by decide))) fun A F => ?_
 iterate 2 (refine Av F ?_; intro A F)
 refine Zv F (Bn (uN ((Wd.lo da) / 4294967296#64)) F rfl rfl rfl (i_quo64 (Wd.lo da) 4294967296#64 (by decide))) fun A F => ?_
 iterate 2 (refine Av F ?_; intro A F)
 refine Zv F (Bn (uN ((Wd.hi da) % 4294967296#64)) F rfl rfl rfl (i_rem64 (Wd.hi da) 4294967296#64 (by decide))) fun A F => ?_
 iterate 2 (refine Av F ?_; intro A F)
 refine Zv F (Bn (uN ((Wd.hi da) / 4294967296#64)) F rfl rfl rfl (i_quo64 (Wd.hi da) 4294967296#64 (by decide))) fun A F => ?_
 refine Zv F (d_build (qs := #[(0, uN ((Wd.lo da) % 4294967296#64)), (1, uN ((Wd.lo da) / 4294967296#64)), (2, uN ((Wd.hi da) % 4294967296#64)), (3, uN ((Wd.hi da) / 4294967296#64))]) (v := .agg #[uN ((Wd.lo da) % 4294967296#64), uN ((Wd.lo da) / 4294967296#64), uN ((Wd.hi da) % 4294967296#64), uN ((Wd.hi da) / 4294967296#64)]) F rfl rfl (by kernel_rfl)) fun A F => ?_
 refine Zs 0 [uN ((Wd.lo da) % 4294967296#64), uN ((Wd.lo da) / 4294967296#64), uN ((Wd.hi da) % 4294967296#64), uN ((Wd.hi da) / 4294967296#64)] sz_23 F H fun A w F H => ?_
 refine Nl kk (wp_ret ?_)
 try dsimp only [Exit.then, Exit.inBlock, Exit.jump, Exit.noGoto]
 refine ret1 F Tryz.results63 (res_row (i := 0) (xs := [uN ((Wd.lo da) % 4294967296#64), uN ((Wd.lo da) / 4294967296#64), uN ((Wd.hi da) % 4294967296#64), uN ((Wd.hi da) / 4294967296#64)]) rw_23 F H rfl rfl rfl rfl) ⟨?_, H.below⟩
 rfl
open Sx in
theorem rwhole_c (d0 d1 d2 d3 : BitVec 64) (w0 : World) : Calls Tryz.prog 64 #[.agg #[uN (d0), uN (d1), uN (d2), uN (d3)]] w0 fun e w' => e = .returned (.agg #[uH (Wd.mk (d2 + 4294967296#64 * d3) (d0 + 4294967296#64 * d1)), uL (Wd.mk (d2 + 4294967296#64 * d3) (d0 + 4294967296#64 * d1))]) ∧ Below w0.heap.size w0 w' := by
 refine En Tryz.func64 Tryz.ntmps64 fun A F => ?_
 have H := Sx.Own.start w0
 refine Sp fun _ kk => Zb F (d_box F H rfl rfl [uN (d0), uN (d1), uN (d2), uN (d3)] rfl) fun g1 A w F H => ?_
 refine Zb F (d_alloc H rfl L1 zero_41) fun g2 A w F H => ?_
 refine Nl kk (Sp fun _ kk => Zv F (d_iaddr (v := pT g1 2) F rfl rfl rfl (by kernel_rfl)) fun A F => ?_)
 refine Av F fun A F => ?_
 refine Zv F (d_iaddr (v := pT g1 3) F rfl rfl rfl (by kernel_rfl)) fun A F => ?_
 refine Av F fun A F => ?_
 refine Zv F (Bn (uN (4294967296#64 * (d3))) F rfl rfl rfl (i_mul64 4294967296#64 (d3))) fun A F => ?_
 refine Zv F (Bn (uN ((d2) + (4294967296#64 * (d3)))) F rfl rfl rfl (i_add64 (d2) (4294967296#64 * (d3)))) fun A F => ?_
 refine Zv F (d_iaddr (v := pT g1 0) F rfl rfl rfl (by kernel_rfl)) fun A F => ?_
 refine Av F fun A F => ?_
 refine Zv F (d_iaddr (v := pT g1 1) F rfl rfl rfl (by kernel_rfl)) fun A F => ?_
 refine Av F fun A F => ?_
 refine Zv F (Bn (uN (4294967296#64 * (d1))) F rfl rfl rfl (i_mul64 4294967296#64 (d1))) fun A F => ?_
 refine Zv F (Bn (uN ((d0) + (4294967296#64 * (d1)))) F rfl rfl rfl (i_add64 (d0) (4294967296#64 * (d1)))) fun A F => ?_
 refine Zv F (d_build (qs := #[(0, uN ((d2) + (4294967296#64 * (d3)))), (1, uN ((d0) + (4294967296#64 * (d1))))]) (v := .agg #[uH (Wd.mk ((d2) + (4294967296#64 * (d3))) ((d0) + (4294967296#64 * (d1)))), uL (Wd.mk ((d2) + (4294967296#64 * (d3))) ((d0) + (4294967296#64 * (d1))))]) F rfl rfl (by unfold uH uL; rw [Wd.hi_mk, Wd.lo_mk]; kernel_rfl)) fun A F => ?_
 refine Zs 0 [uH (Wd.mk ((d2) + (4294967296#64 * (d3))) ((d0) + (4294967296#64 * (d1)))), uL (Wd.mk ((d2) + (4294967296#64 * (d3))) ((d0) + (4294967296#64 * (d1))))] sz_41 F H fun A w F H => ?_
 refine Nl kk (wp_ret ?_)
 try dsimp only [Exit.then, Exit.inBlock, Exit.jump, Exit.noGoto]
 refine ret1 F Tryz.results64 (res_row (i := 0) (xs := [uH (Wd.mk ((d2) + (4294967296#64 * (d3))) ((d0) + (4294967296#64 * (d1)))), uL (Wd.mk ((d2) + (4294967296#64 * (d3))) ((d0) + (4294967296#64 * (d1))))]) rw_41 F H rfl rfl rfl rfl) ⟨?_, H.below⟩
 rfl
abbrev L17 (x0 : BitVec 128) : List Value := [uN (Wd.lo x0 % 4294967296#64), uN (Wd.lo x0 / 4294967296#64), uN (Wd.hi x0 % 4294967296#64), uN (Wd.hi x0 / 4294967296#64)]
set_option maxHeartbeats 4000000 in
open Sx in
theorem radd_c (da db : BitVec 128) (w0 : World) : Calls Tryz.prog 29 #[.agg #[uH da, uL da], .agg #[uH db, uL db]] w0 fun e w' => e = .returned (.tuple #[.agg #[uH (da + db), uL (da + db)], .bool (Wd.over da db)]) ∧ Below w0.heap.size w0 w' := by
 refine En Tryz.func29 Tryz.ntmps29 fun A F => ?_
 have H := Sx.Own.start w0
 refine Sp fun _ kk => Zb F (d_box F H rfl rfl [uH da, uL da] rfl) fun g1 A w F H => ?_
 refine Zb F (d_box F H rfl rfl [uH db, uL db] rfl) fun g2 A w F H => ?_
 refine Zb F (d_alloc H rfl L1 zero_41) fun g3 A w F H => ?_
 refine Av F fun A F => ?_
 refine Nl kk (Sp fun _ kk => Av F fun A F => ?_)
 refine Zw F (Dc if_63 F H (rdigits_c da _)) fun A w F H => ?_
 refine Zb F (d_alloc H rfl [iU 0, iU 0, iU 0, iU 0] zero_23) fun g4 A w F H => ?_
 refine Zs 0 (L17 da) sz_23 F H fun A w F H => ?_
 refine Nl kk (Sp fun _ kk => Av F fun A F => ?_)
 refine Zw F (Dc if_63 F H (rdigits_c db _)) fun A w F H => ?_
 refine Zb F (d_alloc H rfl [iU 0, iU 0, iU 0, iU 0] zero_23) fun g5 A w F H => ?_
 refine Zs 0 (L17 db) sz_23 F H fun A w F H => ?_
 refine Nl kk (Sp fun _ kk => Av F fun A F => ?_)
 refine Nl kk (Sx.seq fun K5 hK5 => Sp fun _ kk => Av F fun A F => ?_)
 refine Nl kk (wp_block (wp_loop_rounds 5 ?_))
 try dsimp only [Exit.then, Exit.noGoto]
 rw [rounds_succ]
 refine Sx.seq fun K7 hK7 => Sp fun _ kk => ?_
 iterate 2 (refine Av F ?_; intro A F)
 refine Nl kk (condT F rfl (wp_skip (hK7 _ _ (Sx.seq fun K9 hK9 => wp_block (Sx.seq fun K10 hK10 => ?_)))))
 have F := F.tq [(4, pT g3 0), (5, bF), (6, pT g4 0), (7, pT g5 0), (8, iU 0), (9, iI 0), (16, bT)] rfl
 refine Dn F [some (iI 0), some (pT g4 0), some (uN (Wd.lo da % 4294967296#64)), some (iI 0), some (pT g5 0), some (uN (Wd.lo db % 4294967296#64)), some (uN ((Wd.lo da % 4294967296#64) + (Wd.lo db % 4294967296#64))), some (iU 0), some (uN (((Wd.lo da % 4294967296#64) + (Wd.lo db % 4294967296#64)) + 0#64)), some (uN (((Wd.lo da % 4294967296#64) + (Wd.lo db % 4294967296#64)) + 0#64))] (fun L A w => Sx.Own w0 w [(true, g5, (L17 db)), (true, g4, (L17 da)), (true, g3, L1), (true, g2, [uH db, uL db]), (true, g1, [uH da, uL da])] []) H.drew ?_ ?_
 ·refine ⟨?_, ?_, ?_, ?_, ?_, ?_, ?_, ?_, ?_, ?_, trivial⟩
  ·exact Sa
  ·exact SV (fun _ _ _ F _ => d_iaddr (v := pT g4 0) F rfl rfl rfl (by kernel_rfl))
  ·exact SV (fun _ _ _ F H => Ld 1 one_22 F H)
  ·exact Sa
  ·exact SV (fun _ _ _ F _ => d_iaddr (v := pT g5 0) F rfl rfl rfl (by kernel_rfl))
  ·exact SV (fun _ _ _ F H => Ld 0 one_22 F H)
  ·exact SV (fun _ _ _ F _ => Bn (uN ((Wd.lo da % 4294967296#64) + (Wd.lo db % 4294967296#64))) F rfl rfl rfl (i_add64 (Wd.lo da % 4294967296#64) (Wd.lo db % 4294967296#64)))
  ·exact Sa
  ·exact SV (fun _ _ _ F _ => Bn (uN (((Wd.lo da % 4294967296#64) + (Wd.lo db % 4294967296#64)) + 0#64)) F rfl rfl rfl (i_add64 ((Wd.lo da % 4294967296#64) + (Wd.lo db % 4294967296#64)) 0#64))
  ·exact Sa
 ·intro L A w hL F H
  have F := F.tq [(4, pT g3 0), (5, bF), (6, pT g4 0), (7, pT g5 0), (8, iU 0), (9, iI 0), (16, bT), (10, uN (((Wd.lo da % 4294967296#64) + (Wd.lo db % 4294967296#64)) + 0#64))] rfl
  obtain ⟨n0, hn0⟩ : ∃ q, (((Wd.lo da % 4294967296#64) + (Wd.lo db % 4294967296#64)) + 0#64) = q := ⟨_, rfl⟩
  rw [hn0] at F
  refine hK10 _ _ (Sp fun _ kk => ?_)
  iterate 2 (refine Av F ?_; intro A F)
  refine Zv F (Bn (uN (n0 % 4294967296#64)) F rfl rfl rfl (i_rem64 n0 4294967296#64 (by decide))) fun A F => ?_
  refine Zv F (d_iaddr (v := pT g4 0) F rfl rfl rfl (by kernel_rfl)) fun A F => ?_
  refine Zs 1 [uN (n0 % 4294967296#64), uN (Wd.lo da / 4294967296#64), uN (Wd.hi da % 4294967296#64), uN (Wd.hi da / 4294967296#64)] sz_22 F H fun A w F H => ?_
  refine Nl kk (Sx.plain ?_)
  refine Av F fun A F => ?_
  refine Zv F (Bn (uN (n0 / 4294967296#64)) F rfl rfl rfl (i_quo64 n0 4294967296#64 (by decide))) fun A F => ?_
  refine Av F fun A F => ?_
  refine Sx.nil (hK9 _ _ (Sx.plain ?_))
  refine Av F fun A F => ?_
  refine Zv F (Bn (iI 1) F rfl rfl rfl (i_addS (by decide))) fun A F => ?_
  refine Av F fun A F => ?_
  refine Sx.nil ?_
  try dsimp only [Exit.then, Exit.noGoto]
  rw [rounds_succ]
  refine Sx.seq fun K12 hK12 => Sp fun _ kk => ?_
  iterate 2 (refine Av F ?_; intro A F)
  refine Nl kk (condT F rfl (wp_skip (hK12 _ _ (Sx.seq fun K14 hK14 => wp_block (Sx.seq fun K15 hK15 => ?_)))))
  have F := F.tq [(4, pT g3 0), (5, bF), (6, pT g4 0), (7, pT g5 0), (8, uN (n0 / 4294967296#64)), (9, iI 1), (16, bT)] rfl
  refine Dn F [some (iI 1), some (pT g4 1), some (uN (Wd.lo da / 4294967296#64)), some (iI 1), some (pT g5 1), some (uN (Wd.lo db / 4294967296#64)), some (uN ((Wd.lo da / 4294967296#64) + (Wd.lo db / 4294967296#64))), some (uN (n0 / 4294967296#64)), some (uN (((Wd.lo da / 4294967296#64) + (Wd.lo db / 4294967296#64)) + (n0 / 4294967296#64))), some (uN (((Wd.lo da / 4294967296#64) + (Wd.lo db / 4294967296#64)) + (n0 / 4294967296#64)))] (fun L A w => Sx.Own w0 w [(true, g5, (L17 db)), (true, g4, [uN (n0 % 4294967296#64), uN (Wd.lo da / 4294967296#64), uN (Wd.hi da % 4294967296#64), uN (Wd.hi da / 4294967296#64)]), (true, g3, L1), (true, g2, [uH db, uL db]), (true, g1, [uH da, uL da])] []) H.drew ?_ ?_
  ·refine ⟨?_, ?_, ?_, ?_, ?_, ?_, ?_, ?_, ?_, ?_, trivial⟩
   ·exact Sa
   ·exact SV (fun _ _ _ F _ => d_iaddr (v := pT g4 1) F rfl rfl rfl (by kernel_rfl))
   ·exact SV (fun _ _ _ F H => Ld 1 one_22 F H)
   ·exact Sa
   ·exact SV (fun _ _ _ F _ => d_iaddr (v := pT g5 1) F rfl rfl rfl (by kernel_rfl))
   ·exact SV (fun _ _ _ F H => Ld 0 one_22 F H)
   ·exact SV (fun _ _ _ F _ => Bn (uN ((Wd.lo da / 4294967296#64) + (Wd.lo db / 4294967296#64))) F rfl rfl rfl (i_add64 (Wd.lo da / 4294967296#64) (Wd.lo db / 4294967296#64)))
   ·exact Sa
   ·exact SV (fun _ _ _ F _ => Bn (uN (((Wd.lo da / 4294967296#64) + (Wd.lo db / 4294967296#64)) + (n0 / 4294967296#64))) F rfl rfl rfl (i_add64 ((Wd.lo da / 4294967296#64) + (Wd.lo db / 4294967296#64)) (n0 / 4294967296#64)))
   ·exact Sa
  ·intro L A w hL F H
   have F := F.tq [(4, pT g3 0), (5, bF), (6, pT g4 0), (7, pT g5 0), (8, uN (n0 / 4294967296#64)), (9, iI 1), (16, bT), (10, uN (((Wd.lo da / 4294967296#64) + (Wd.lo db / 4294967296#64)) + (n0 / 4294967296#64)))] rfl
   obtain ⟨n1, hn1⟩ : ∃ q, (((Wd.lo da / 4294967296#64) + (Wd.lo db / 4294967296#64)) + (n0 / 4294967296#64)) = q := ⟨_, rfl⟩
   rw [hn1] at F
   refine hK15 _ _ (Sp fun _ kk => ?_)
   iterate 2 (refine Av F ?_; intro A F)
   refine Zv F (Bn (uN (n1 % 4294967296#64)) F rfl rfl rfl (i_rem64 n1 4294967296#64 (by decide))) fun A F => ?_
   refine Zv F (d_iaddr (v := pT g4 1) F rfl rfl rfl (by kernel_rfl)) fun A F => ?_
   refine Zs 1 [uN (n0 % 4294967296#64), uN (n1 % 4294967296#64), uN (Wd.hi da % 4294967296#64), uN (Wd.hi da / 4294967296#64)] sz_22 F H fun A w F H => ?_
   refine Nl kk (Sx.plain ?_)
   refine Av F fun A F => ?_
   refine Zv F (Bn (uN (n1 / 4294967296#64)) F rfl rfl rfl (i_quo64 n1 4294967296#64 (by decide))) fun A F => ?_
   refine Av F fun A F => ?_
   refine Sx.nil (hK14 _ _ (Sx.plain ?_))
   refine Av F fun A F => ?_
   refine Zv F (Bn (iI 2) F rfl rfl rfl (i_addS (by decide))) fun A F => ?_
   refine Av F fun A F => ?_
   refine Sx.nil ?_
   try dsimp only [Exit.then, Exit.noGoto]
   rw [rounds_succ]
   refine Sx.seq fun K17 hK17 => Sp fun _ kk => ?_
   iterate 2 (refine Av F ?_; intro A F)
   refine Nl kk (condT F rfl (wp_skip (hK17 _ _ (Sx.seq fun K19 hK19 => wp_block (Sx.seq fun K20 hK20 => ?_)))))
   have F := F.tq [(4, pT g3 0), (5, bF), (6, pT g4 0), (7, pT g5 0), (8, uN (n1 / 4294967296#64)), (9, iI 2), (16, bT)] rfl
   refine Dn F [some (iI 2), some (pT g4 2), some (uN (Wd.hi da % 4294967296#64)), some (iI 2), some (pT g5 2), some (uN (Wd.hi db % 4294967296#64)), some (uN ((Wd.hi da % 4294967296#64) + (Wd.hi db % 4294967296#64))), some (uN (n1 / 4294967296#64)), some (uN (((Wd.hi da % 4294967296#64) + (Wd.hi db % 4294967296#64)) + (n1 / 4294967296#64))), some (uN (((Wd.hi da % 4294967296#64) + (Wd.hi db % 4294967296#64)) + (n1 / 4294967296#64)))] (fun L A w => Sx.Own w0 w [(true, g5, (L17 db)), (true, g4, [uN (n0 % 4294967296#64), uN (n1 % 4294967296#64), uN (Wd.hi da % 4294967296#64), uN (Wd.hi da / 4294967296#64)]), (true, g3, L1), (true, g2, [uH db, uL db]), (true, g1, [uH da, uL da])] []) H.drew ?_ ?_
   ·refine ⟨?_, ?_, ?_, ?_, ?_, ?_, ?_, ?_, ?_, ?_, trivial⟩
    ·exact Sa
    ·exact SV (fun _ _ _ F _ => d_iaddr (v := pT g4 2) F rfl rfl rfl (by kernel_rfl))
    ·exact SV (fun _ _ _ F H => Ld 1 one_22 F H)
    ·exact Sa
    ·exact SV (fun _ _ _ F _ => d_iaddr (v := pT g5 2) F rfl rfl rfl (by kernel_rfl))
    ·exact SV (fun _ _ _ F H => Ld 0 one_22 F H)
    ·exact SV (fun _ _ _ F _ => Bn (uN ((Wd.hi da % 4294967296#64) + (Wd.hi db % 4294967296#64))) F rfl rfl rfl (i_add64 (Wd.hi da % 4294967296#64) (Wd.hi db % 4294967296#64)))
    ·exact Sa
    ·exact SV (fun _ _ _ F _ => Bn (uN (((Wd.hi da % 4294967296#64) + (Wd.hi db % 4294967296#64)) + (n1 / 4294967296#64))) F rfl rfl rfl (i_add64 ((Wd.hi da % 4294967296#64) + (Wd.hi db % 4294967296#64)) (n1 / 4294967296#64)))
    ·exact Sa
   ·intro L A w hL F H
    have F := F.tq [(4, pT g3 0), (5, bF), (6, pT g4 0), (7, pT g5 0), (8, uN (n1 / 4294967296#64)), (9, iI 2), (16, bT), (10, uN (((Wd.hi da % 4294967296#64) + (Wd.hi db % 4294967296#64)) + (n1 / 4294967296#64)))] rfl
    obtain ⟨n2, hn2⟩ : ∃ q, (((Wd.hi da % 4294967296#64) + (Wd.hi db % 4294967296#64)) + (n1 / 4294967296#64)) = q := ⟨_, rfl⟩
    rw [hn2] at F
    refine hK20 _ _ (Sp fun _ kk => ?_)
    iterate 2 (refine Av F ?_; intro A F)
    refine Zv F (Bn (uN (n2 % 4294967296#64)) F rfl rfl rfl (i_rem64 n2 4294967296#64 (by decide))) fun A F => ?_
    refine Zv F (d_iaddr (v := pT g4 2) F rfl rfl rfl (by kernel_rfl)) fun A F => ?_
    refine Zs 1 [uN (n0 % 4294967296#64), uN (n1 % 4294967296#64), uN (n2 % 4294967296#64), uN (Wd.hi da / 4294967296#64)] sz_22 F H fun A w F H => ?_
    refine Nl kk (Sx.plain ?_)
    refine Av F fun A F => ?_
    refine Zv F (Bn (uN (n2 / 4294967296#64)) F rfl rfl rfl (i_quo64 n2 4294967296#64 (by decide))) fun A F => ?_
    refine Av F fun A F => ?_
    refine Sx.nil (hK19 _ _ (Sx.plain ?_))
    refine Av F fun A F => ?_
    refine Zv F (Bn (iI 3) F rfl rfl rfl (i_addS (by decide))) fun A F => ?_
    refine Av F fun A F => ?_
    refine Sx.nil ?_
    try dsimp only [Exit.then, Exit.noGoto]
    rw [rounds_succ]
    refine Sx.seq fun K22 hK22 => Sp fun _ kk => ?_
    iterate 2 (refine Av F ?_; intro A F)
    refine Nl kk (condT F rfl (wp_skip (hK22 _ _ (Sx.seq fun K24 hK24 => wp_block (Sx.seq fun K25 hK25 => ?_)))))
    have F := F.tq [(4, pT g3 0), (5, bF), (6, pT g4 0), (7, pT g5 0), (8, uN (n2 / 4294967296#64)), (9, iI 3), (16, bT)] rfl
    refine Dn F [some (iI 3), some (pT g4 3), some (uN (Wd.hi da / 4294967296#64)), some (iI 3), some (pT g5 3), some (uN (Wd.hi db / 4294967296#64)), some (uN ((Wd.hi da / 4294967296#64) + (Wd.hi db / 4294967296#64))), some (uN (n2 / 4294967296#64)), some (uN (((Wd.hi da / 4294967296#64) + (Wd.hi db / 4294967296#64)) + (n2 / 4294967296#64))), some (uN (((Wd.hi da / 4294967296#64) + (Wd.hi db / 4294967296#64)) + (n2 / 4294967296#64)))] (fun L A w => Sx.Own w0 w [(true, g5, (L17 db)), (true, g4, [uN (n0 % 4294967296#64), uN (n1 % 4294967296#64), uN (n2 % 4294967296#64), uN (Wd.hi da / 4294967296#64)]), (true, g3, L1), (true, g2, [uH db, uL db]), (true, g1, [uH da, uL da])] []) H.drew ?_ ?_
    ·refine ⟨?_, ?_, ?_, ?_, ?_, ?_, ?_, ?_, ?_, ?_, trivial⟩
     ·exact Sa
     ·exact SV (fun _ _ _ F _ => d_iaddr (v := pT g4 3) F rfl rfl rfl (by kernel_rfl))
     ·exact SV (fun _ _ _ F H => Ld 1 one_22 F H)
     ·exact Sa
     ·exact SV (fun _ _ _ F _ => d_iaddr (v := pT g5 3) F rfl rfl rfl (by kernel_rfl))
     ·exact SV (fun _ _ _ F H => Ld 0 one_22 F H)
     ·exact SV (fun _ _ _ F _ => Bn (uN ((Wd.hi da / 4294967296#64) + (Wd.hi db / 4294967296#64))) F rfl rfl rfl (i_add64 (Wd.hi da / 4294967296#64) (Wd.hi db / 4294967296#64)))
     ·exact Sa
     ·exact SV (fun _ _ _ F _ => Bn (uN (((Wd.hi da / 4294967296#64) + (Wd.hi db / 4294967296#64)) + (n2 / 4294967296#64))) F rfl rfl rfl (i_add64 ((Wd.hi da / 4294967296#64) + (Wd.hi db / 4294967296#64)) (n2 / 4294967296#64)))
     ·exact Sa
    ·intro L A w hL F H
     have F := F.tq [(4, pT g3 0), (5, bF), (6, pT g4 0), (7, pT g5 0), (8, uN (n2 / 4294967296#64)), (9, iI 3), (16, bT), (10, uN (((Wd.hi da / 4294967296#64) + (Wd.hi db / 4294967296#64)) + (n2 / 4294967296#64)))] rfl
     obtain ⟨n3, hn3⟩ : ∃ q, (((Wd.hi da / 4294967296#64) + (Wd.hi db / 4294967296#64)) + (n2 / 4294967296#64)) = q := ⟨_, rfl⟩
     rw [hn3] at F
     refine hK25 _ _ (Sp fun _ kk => ?_)
     iterate 2 (refine Av F ?_; intro A F)
     refine Zv F (Bn (uN (n3 % 4294967296#64)) F rfl rfl rfl (i_rem64 n3 4294967296#64 (by decide))) fun A F => ?_
     refine Zv F (d_iaddr (v := pT g4 3) F rfl rfl rfl (by kernel_rfl)) fun A F => ?_
     refine Zs 1 [uN (n0 % 4294967296#64), uN (n1 % 4294967296#64), uN (n2 % 4294967296#64), uN (n3 % 4294967296#64)] sz_22 F H fun A w F H => ?_
     refine Nl kk (Sx.plain ?_)
     refine Av F fun A F => ?_
     refine Zv F (Bn (uN (n3 / 4294967296#64)) F rfl rfl rfl (i_quo64 n3 4294967296#64 (by decide))) fun A F => ?_
     refine Av F fun A F => ?_
     refine Sx.nil (hK24 _ _ (Sx.plain ?_))
     refine Av F fun A F => ?_
     refine Zv F (Bn (iI 4) F rfl rfl rfl (i_addS (by decide))) fun A F => ?_
     refine Av F fun A F => ?_
     refine Sx.nil ?_
     try dsimp only [Exit.then, Exit.noGoto]
     rw [rounds_succ]
     refine Sx.seq fun K27 hK27 => Sp fun _ kk => ?_
     iterate 2 (refine Av F ?_; intro A F)
     refine Nl kk (condF F rfl (wp_exit ?_))
     try dsimp only [Exit.then, Exit.jump, Exit.noGoto]
     refine exit_here (hK5 _ _ (Sp fun _ kk => Av F fun A F => ?_))
     refine Zw F (Dc if_64 F H (rwhole_c (n0 % 4294967296#64) (n1 % 4294967296#64) (n2 % 4294967296#64) (n3 % 4294967296#64) _)) fun A w F H => ?_
     refine Av F fun A F => ?_
     refine Zv F (Bn (.bool (((n3 / 4294967296#64).toNat : Int) == 1)) F rfl rfl rfl (i_eq rfl)) fun A F => ?_
     refine Zs 2 [uH (Wd.mk ((n2 % 4294967296#64) + 4294967296#64 * (n3 % 4294967296#64)) ((n0 % 4294967296#64) + 4294967296#64 * (n1 % 4294967296#64))), uL (Wd.mk ((n2 % 4294967296#64) + 4294967296#64 * (n3 % 4294967296#64)) ((n0 % 4294967296#64) + 4294967296#64 * (n1 % 4294967296#64)))] sz_41 F H fun A w F H => ?_
     refine Av F fun A F => ?_
     refine Nl kk (wp_ret ?_)
     try dsimp only [Exit.then, Exit.inBlock, Exit.jump, Exit.noGoto]
     refine ret2 F Tryz.results29 (res_row (i := 2) (xs := [uH (Wd.mk ((n2 % 4294967296#64) + 4294967296#64 * (n3 % 4294967296#64)) ((n0 % 4294967296#64) + 4294967296#64 * (n1 % 4294967296#64))), uL (Wd.mk ((n2 % 4294967296#64) + 4294967296#64 * (n3 % 4294967296#64)) ((n0 % 4294967296#64) + 4294967296#64 * (n1 % 4294967296#64)))]) rw_41 F H rfl rfl rfl rfl) (res_tmp F rfl) ⟨?_, H.below⟩
     obtain ⟨k1, k2⟩ := R1.add_dig da db n0 n1 n2 n3 hn0 hn1 hn2 hn3; rw [k1, k2]
open Sx in
theorem rbits_c (x : BitVec 64) (w0 : World) : Calls Tryz.prog 37 #[uN x] w0 fun e w' => ∃ v, e = .returned v ∧ w'.ownsRow w0.heap.size 3 1 v 64 (Bi.bis (BitVec.getLsbD x) 64) ∧ Below w0.heap.size w0 w' := by
 refine En Tryz.func37 Tryz.ntmps37 fun A F => ?_
 have H := Sx.Own.start w0
 refine Sp fun _ kk => Av F fun A F => ?_
 refine Nl kk (Sp fun _ kk => Zr (mk := fun v => v) F (d_litR (qs := #[]) (cs := #[]) (E := 3) (z := 1) F H rfl rfl (fun _ => by kernel_rfl) rfl (by decide)) fun v1 A w F H => ?_)
 refine Av F fun A F => ?_
 refine Nl kk (Sx.seq fun K3 hK3 => Sp fun _ kk => Av F fun A F => ?_)
 refine Nl kk (wp_block ?_)
 have F := Fr.to F (kv' := [(0, iU (x >>> 0).toNat), (3, v1), (4, iI (0 : Nat))]) ⟨by rw [BitVec.ushiftRight_zero]; rfl, rfl, rfl, trivial⟩
 refine loop (fun q A w => ∃ (i : Nat) (v : Value), q = 64 - i ∧ i ≤ 64 ∧ Fr 19 A [(0, uN (x >>> i)), (3, v), (4, iI i)] ∧ Sx.Own w0 w [] [⟨true, v, 3, 1, i, (Bi.bis (BitVec.getLsbD x) i)⟩]) 64 ⟨0, v1, rfl, Nat.zero_le _, F, H⟩ ?_
 rintro q A w ⟨i, v, rfl, hi, F, H⟩
 by_cases hlt : i < 64
 ·skip
  refine Sx.seq fun K5 hK5 => Sp fun _ kk => Av F fun A F => ?_
  refine Zv F (Bn bT F rfl rfl rfl (i_lt (decide_eq_true (by omega)))) fun A F => ?_
  refine Nl kk (condT F rfl (wp_skip (hK5 _ _ (Sx.seq fun K7 hK7 => wp_block (Sp fun _ kk => ?_)))))
  iterate 2 (refine Av F ?_; intro A F)
  refine Zv F (Bn (uN ((x >>> i) % 2#64)) F rfl rfl rfl (i_rem64 (x >>> i) 2#64 (by decide))) fun A F => ?_
  refine Zv F (d_conv (v := iI ((x.getLsbD i).toNat)) F rfl rfl (c_u64_i64 _ _ (Bi.bit x i) (by have := Bi.bl (x.getLsbD i); omega))) fun A F => ?_
  refine Zg (mk := fun g => sL g 0 1 1) F (d_lit (qs := #[(0, iI ((x.getLsbD i).toNat))]) (cs := #[iI ((x.getLsbD i).toNat)]) (E := 3) F H rfl rfl (fun _ => by kernel_rfl)) fun g1 A w F H => ?_
  refine Zr (mk := fun v => v) F (d_append (i := 0) (j := 0) el_54 F H rfl rfl rfl rfl rfl rfl rfl rfl (by omega) (by decide)) fun v2 A w F H => ?_
  refine Av F fun A F => ?_
  refine Nl kk (Sx.plain ?_)
  refine Av F fun A F => ?_
  refine Zv F (Bn (uN (x >>> (i + 1))) F rfl rfl rfl (i_half x i)) fun A F => ?_
  refine Av F fun A F => ?_
  refine Sx.nil (hK7 _ _ (Sx.plain ?_))
  refine Av F fun A F => ?_
  refine Zv F (Bn (iI (i + 1 : Nat)) F rfl rfl rfl (i_addN rfl (in_i64 _ (by omega)))) fun A F => ?_
  refine Av F fun A F => ?_
  refine Sx.nil ?_
  try dsimp only [Exit.then]
  exact ⟨64 - (i + 1), by omega, i + 1, v2, rfl, by omega, F.to ⟨rfl, rfl, rfl, trivial⟩, by rw [Bi.snoc]; exact H.to' [] [0] (by decide) (by decide) rfl rfl⟩
 ·obtain rfl : i = 64 := by omega
  refine Sx.seq fun K9 hK9 => Sp fun _ kk => ?_
  iterate 2 (refine Av F ?_; intro A F)
  refine Nl kk (condF F rfl (wp_exit ?_))
  try dsimp only [Exit.then, Exit.jump]
  refine exit_here (hK3 _ _ (Sp fun _ kk => ?_))
  iterate 2 (refine Av F ?_; intro A F)
  refine Nl kk (wp_ret ?_)
  try dsimp only [Exit.then, Exit.inBlock, Exit.jump]
  refine ret1 F Tryz.results37 (res_tmp F rfl) ?_
  exact ⟨_, rfl, H.row 0 _ rfl rfl, H.below⟩
theorem Bi.list (x : BitVec 128) : Bi.bis (BitVec.getLsbD (Wd.lo x)) 64 ++ Bi.bis (BitVec.getLsbD (Wd.hi x)) 64 = Bi.bis (BitVec.getLsbD x) 128 := by
  rw [Bi.app]
  refine Bi.congr (fun i hi => ?_)
  by_cases h : i < 64
  · rw [if_pos h, Wd.lo_bit _ _ h]
  · rw [if_neg h, Wd.hi_bit _ _ (by omega)]; congr 1; omega
open Sx in
theorem rlist_c (x : BitVec 128) (w0 : World) : Calls Tryz.prog 12 #[.agg #[uH x, uL x]] w0 fun e w' => ∃ v, e = .returned v ∧ w'.ownsRow w0.heap.size 3 1 v 128 (Bi.bis (BitVec.getLsbD x) 128) ∧ Below w0.heap.size w0 w' := by
 refine En Tryz.func12 Tryz.ntmps12 fun A F => ?_
 have H := Sx.Own.start w0
 refine Sp fun _ kk => Zb F (d_box F H rfl rfl [uH x, uL x] rfl) fun g1 A w F H => ?_
 refine Av F fun A F => ?_
 refine Nl kk (Sx.seq fun K2 hK2 => ?_)
 have F := F.tq [(0, .agg #[uH x, uL x]), (1, pT g1 0)] rfl
 refine Dn F [some (pT g1 1), some (uL x), none, some (pT g1 0), some (uH x), none, none, none] (fun L A w => ∃ v1 : Value, ∃ v2 : Value, ∃ v3 : Value, (L 2 = true → A.eval (.tmp 5) = v1) ∧ (L 5 = true → A.eval (.tmp 8) = v2) ∧ (L 6 = true → A.eval (.tmp 9) = v3) ∧ (L 7 = true → A.eval (.tmp 2) = v3) ∧ Sx.Own w0 w [(true, g1, [uH x, uL x])] [⟨cond (L 6) false (L 2), v1, 3, 1, 64, (Bi.bis (BitVec.getLsbD (Wd.lo x)) 64)⟩, ⟨L 5, v2, 3, 1, 64, (Bi.bis (BitVec.getLsbD (Wd.hi x)) 64)⟩, ⟨L 6, v3, 3, 1, 128, (Bi.bis (BitVec.getLsbD (Wd.lo x)) 64) ++ (Bi.bis (BitVec.getLsbD (Wd.hi x)) 64)⟩]) ⟨undef, undef, undef, (fun h => by cases h), (fun h => by cases h), (fun h => by cases h), (fun h => by cases h), H.drew.pad [] rfl [⟨false, undef, 3, 1, 64, (Bi.bis (BitVec.getLsbD (Wd.lo x)) 64)⟩, ⟨false, undef, 3, 1, 64, (Bi.bis (BitVec.getLsbD (Wd.hi x)) 64)⟩, ⟨false, undef, 3, 1, 128, (Bi.bis (BitVec.getLsbD (Wd.lo x)) 64) ++ (Bi.bis (BitVec.getLsbD (Wd.hi x)) 64)⟩] rfl⟩ ?_ ?_
 ·refine ⟨?_, ?_, ?_, ?_, ?_, ?_, ?_, ?_, trivial⟩
  ·intro L A w up hun hd F ⟨v1, v2, v3, p2, p5, p6, p7, H⟩
   have f1 : L 1 = false := up 1 0 rfl hun
   have f2 : L 2 = false := up 2 1 rfl f1
   have f5 : L 5 = false := up 5 2 rfl f2
   have f6 : L 6 = false := up 6 2 rfl f2
   have f7 : L 7 = false := up 7 0 rfl hun
   have G := H; rw [f2, f5, f6] at G
   refine step_on rfl (Fd F (fa_41_1.default.h _ _ _)) ?_
   rintro xv w' ⟨hx, rfl⟩
   exact ⟨Cs hx, ⟨v1, v2, v3, Nf f2, Nf f5, Nf f6, Nf f7, H⟩⟩
  ·intro L A w up hun hd F ⟨v1, v2, v3, p2, p5, p6, p7, H⟩
   have f2 : L 2 = false := up 2 1 rfl hun
   have f5 : L 5 = false := up 5 2 rfl f2
   have f6 : L 6 = false := up 6 2 rfl f2
   have f7 : L 7 = false := up 7 1 rfl hun
   have G := H; rw [f2, f5, f6] at G
   refine step_on rfl (Ld 0 one_22 F G) ?_
   rintro xv w' ⟨hx, rfl⟩
   exact ⟨Cs hx, ⟨v1, v2, v3, Nf f2, Nf f5, Nf f6, Nf f7, H⟩⟩
  ·intro L A w up hun hd F ⟨v1, v2, v3, p2, p5, p6, p7, H⟩
   have f2 : L 2 = false := hun
   have f5 : L 5 = false := up 5 2 rfl hun
   have f6 : L 6 = false := up 6 2 rfl hun
   have f7 : L 7 = false := up 7 2 rfl hun
   rw [f2, f5, f6] at H
   refine step_on rfl (d_callR_at 0 (vs := [uL x]) (mk := fun v => v) if_37 F H rfl rfl (rbits_c (Wd.lo x) _)) ?_
   rintro xv w' ⟨v', hx, H⟩
   exact ⟨Cn, ⟨v', v2, v3, (fun _ => (Sx.put_same F (by decide) _).trans hx), Nf f5, Nf f6, Nf f7, (by show Sx.Own _ _ _ _; rw [show Inv.add L 2 5 = false from f5, show Inv.add L 2 6 = false from f6]; exact H)⟩⟩
  ·intro L A w up hun hd F ⟨v1, v2, v3, p2, p5, p6, p7, H⟩
   have f4 : L 4 = false := up 4 3 rfl hun
   have f5 : L 5 = false := up 5 4 rfl f4
   have f6 : L 6 = false := up 6 5 rfl f5
   have f7 : L 7 = false := up 7 3 rfl hun
   have G := H; rw [f5, f6] at G
   refine step_on rfl (Fd F (fa_41_0.default.h _ _ _)) ?_
   rintro xv w' ⟨hx, rfl⟩
   exact ⟨Cs hx, ⟨v1, v2, v3, Pk p2, Nf f5, Nf f6, Nf f7, H⟩⟩
  ·intro L A w up hun hd F ⟨v1, v2, v3, p2, p5, p6, p7, H⟩
   have f5 : L 5 = false := up 5 4 rfl hun
   have f6 : L 6 = false := up 6 5 rfl f5
   have f7 : L 7 = false := up 7 4 rfl hun
   have G := H; rw [f5, f6] at G
   refine step_on rfl (Ld 0 one_22 F G) ?_
   rintro xv w' ⟨hx, rfl⟩
   exact ⟨Cs hx, ⟨v1, v2, v3, Pk p2, Nf f5, Nf f6, Nf f7, H⟩⟩
  ·intro L A w up hun hd F ⟨v1, v2, v3, p2, p5, p6, p7, H⟩
   have t2 : L 2 = true := hd 2 rfl
   have f5 : L 5 = false := hun
   have f6 : L 6 = false := up 6 5 rfl hun
   have f7 : L 7 = false := up 7 5 rfl hun
   rw [t2, f5, f6] at H
   have F := Fr.add F (p2 t2)
   refine step_on rfl (d_callR_at 1 (vs := [uH x]) (mk := fun v => v) if_37 F H rfl rfl (rbits_c (Wd.hi x) _)) ?_
   rintro xv w' ⟨v', hx, H⟩
   exact ⟨Cn, ⟨v1, v', v3, Pk p2, (fun _ => (Sx.put_same F (by decide) _).trans hx), Nf f6, Nf f7, (by show Sx.Own _ _ _ _; rw [show Inv.add L 5 2 = true from t2, show Inv.add L 5 6 = false from f6]; exact H)⟩⟩
  ·intro L A w up hun hd F ⟨v1, v2, v3, p2, p5, p6, p7, H⟩
   have t2 : L 2 = true := hd 2 rfl
   have t5 : L 5 = true := hd 5 rfl
   have f6 : L 6 = false := hun
   have f7 : L 7 = false := up 7 6 rfl hun
   rw [t2, t5, f6] at H
   have F := Fr.add F (p2 t2)
   have F := Fr.add F (p5 t5)
   refine step_on rfl (d_appendR_mv (jn := 2) (i := 0) (j := 1) el_54 F H rfl rfl rfl rfl rfl (Bi.ones _ _) rfl (by omega) (by decide) (by decide) rfl) ?_
   rintro xv w' ⟨v', hx, H⟩
   exact ⟨Cn, ⟨v1, v2, v', Pk p2, Pk p5, (fun _ => (Sx.put_same F (by decide) _).trans hx), Nf f7, (by show Sx.Own _ _ _ _; rw [show Inv.add L 6 2 = true from t2, show Inv.add L 6 5 = true from t5]; exact H)⟩⟩
  ·intro L A w up hun hd F ⟨v1, v2, v3, p2, p5, p6, p7, H⟩
   have t2 : L 2 = true := hd 2 rfl
   have t5 : L 5 = true := hd 5 rfl
   have t6 : L 6 = true := hd 6 rfl
   have f7 : L 7 = false := hun
   have G := H; rw [t2, t5, t6] at G
   have F := Fr.add F (p2 t2)
   have F := Fr.add F (p5 t5)
   have F := Fr.add F (p6 t6)
   refine step_on rfl (d_move F (Or.inr rfl) rfl) ?_
   rintro xv w' ⟨hx, rfl⟩
   exact ⟨Cn, ⟨v1, v2, v3, Pk p2, Pk p5, Pk p6, (fun _ => (Sx.put_same F (by decide) _).trans hx), H⟩⟩
 ·intro L A w hL F ⟨v1, v2, v3, p2, p5, p6, p7, H⟩
  have t2 : L 2 = true := hL 2 rfl
  have t5 : L 5 = true := hL 5 rfl
  have t6 : L 6 = true := hL 6 rfl
  have t7 : L 7 = true := hL 7 rfl
  rw [t2, t5, t6] at H
  have F := Fr.add F (p2 t2)
  have F := Fr.add F (p5 t5)
  have F := Fr.add F (p6 t6)
  have F := Fr.add F (p7 t7)
  have F := F.tq [(2, v3)] rfl
  refine hK2 _ _ (wp_ret ?_)
  try dsimp only [Exit.then, Exit.inBlock, Exit.jump]
  refine ret1 F Tryz.results12 (res_tmp F rfl) ?_
  exact ⟨_, rfl, by have h := H.row 2 _ rfl rfl; exact rowEq h rfl rfl rfl rfl (Bi.list x), H.below⟩
end Go.Proofs.YteecadoakmdibaaGreat
