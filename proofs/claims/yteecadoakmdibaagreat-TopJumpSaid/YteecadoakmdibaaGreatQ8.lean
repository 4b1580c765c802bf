/- What the proof of TopJump leans on: part 8. -/
import Derived.Test.YteecadoakmdibaaGreatQ1
import Derived.Test.YteecadoakmdibaaGreatQ2
import Derived.Test.YteecadoakmdibaaGreatQ3
import Derived.Test.YteecadoakmdibaaGreatQ4
import Derived.Test.YteecadoakmdibaaGreatQ5
import Derived.Test.YteecadoakmdibaaGreatQ6
import Derived.Test.YteecadoakmdibaaGreatQ7
import Derived.Maps.OwnOps
import Derived.Deep.CutRange
import Derived.Deep.RegionHeld3
set_option maxRecDepth 100000
set_option maxHeartbeats 4000000
namespace Go.Proofs.YteecadoakmdibaaGreat
open Go Go.RowKit
abbrev L50 (x0 : BitVec 128) (x1 x2 : BitVec 32) : Value := .agg #[uH x0, uL x0, iW x1.toNat, iW x2.toNat, bT]
abbrev L51 (x0 : BitVec 128) (x1 x2 : BitVec 32) : List Value := [uH x0, uL x0, iW x1.toNat, iW x2.toNat, bT]
open Sx in
theorem hstep_t (hc : BitVec 128) (k0 k1 : BitVec 32) (w0 : World) : Calls Tryz.prog 268 #[(L50 hc k0 k1)] w0 fun e w' => e = .returned (.agg #[uH (hc + 1#128), uL (hc + 1#128), iW k0.toNat, iW k1.toNat, bF]) ∧ Below w0.heap.size w0 w' := by
 refine En Tryz.func268 Tryz.ntmps268 fun A F => ?_
 have H := Sx.Own.start w0
 refine Sp fun _ kk => Zb F (d_box F H rfl rfl (L51 hc k0 k1) rfl) fun g1 A w F H => ?_
 refine Zb F (d_alloc H rfl L5 zero_33) fun g2 A w F H => ?_
 refine Nl kk (Sx.seq fun K2 hK2 => Sp fun _ kk => ?_)
 iterate 2 (refine Av F ?_; intro A F)
 refine Nl kk (condT F rfl ?_)
 have F := F.tq [(0, (L50 hc k0 k1)), (1, pT g1 0), (2, pT g2 0), (3, pT g1 4), (4, bT)] rfl
 refine Dn F [some (pT g1 0), some (.agg #[uH hc, uL hc]), some (L26), some (.tuple #[.agg #[uH (hc + 1#128), uL (hc + 1#128)], .bool (Wd.over hc 1#128)]), some (.tuple #[.agg #[uH (hc + 1#128), uL (hc + 1#128)], .bool (Wd.over hc 1#128)]), some (.agg #[uH (hc + 1#128), uL (hc + 1#128)]), some (.bool (Wd.over hc 1#128)), some (pT g1 0), none] (fun L A w => Sx.Own w0 w [(true, g2, L5), (true, g1, (cond (L 8) [uH (hc + 1#128), uL (hc + 1#128), iW k0.toNat, iW k1.toNat, bT] (L51 hc k0 k1)))] []) H.drew ?_ ?_
 ·refine ⟨?_, ?_, ?_, ?_, ?_, ?_, ?_, ?_, ?_, trivial⟩
  ·exact Sa
  ·intro L A w up hun hd F H
   have f8 : L 8 = false := up 8 1 rfl hun
   have G := H; rw [f8] at G
   refine step_on rfl (Lr 1 [uH hc, uL hc] rw_26 F G) ?_
   rintro xv w' ⟨hx, rfl⟩
   exact ⟨Cs hx, H⟩
  ·intro L A w up hun hd F H
   have f8 : L 8 = false := up 8 2 rfl hun
   rw [f8] at H
   refine step_on rfl (d_call (vs := [iU 1]) (v := L26) if_15 F H rfl rfl (Calls.val (wofV_c 1#64 _) (by kernel_rfl) (by kernel_rfl))) ?_
   rintro xv w' ⟨hx, H⟩
   exact ⟨Cs hx, (by show Sx.Own _ _ _ _; rw [show Inv.add L 2 8 = false from f8]; exact H)⟩
  ·intro L A w up hun hd F H
   have f8 : L 8 = false := up 8 3 rfl hun
   rw [f8] at H
   refine step_on rfl (Dc if_14 F H (wadd_c hc 1#128 _)) ?_
   rintro xv w' ⟨hx, H⟩
   exact ⟨Cs hx, (by show Sx.Own _ _ _ _; rw [show Inv.add L 3 8 = false from f8]; exact H)⟩
  ·exact Sa
  ·exact Sa
  ·exact Sa
  ·exact Sa
  ·intro L A w up hun hd F H
   have f8 : L 8 = false := hun
   rw [f8] at H
   refine step_on rfl (d_store (i := 1) (xs := [uH (hc + 1#128), uL (hc + 1#128)]) (us := [uH (hc + 1#128), uL (hc + 1#128), iW k0.toNat, iW k1.toNat, bT]) sz_26 F H rfl rfl rfl rfl rfl rfl rfl (Nat.le_of_ble_eq_true rfl) rfl) ?_
   intro xv w' H
   exact ⟨Cn, H⟩
 ·intro L A w hL F H
  have t8 : L 8 = true := hL 8 rfl
  rw [t8] at H
  have F := F.tq [(1, pT g1 0), (2, pT g2 0)] rfl
  refine hK2 _ _ (Sp fun _ kk => ?_)
  iterate 2 (refine Av F ?_; intro A F)
  refine Zv F (d_un (v := bF) F rfl rfl rfl) fun A F => ?_
  refine Av F fun A F => ?_
  refine Zs 1 [uH (hc + 1#128), uL (hc + 1#128), iW k0.toNat, iW k1.toNat, bF] sz_4 F H fun A w F H => ?_
  refine Nl kk (Sp fun _ kk => Av F fun A F => ?_)
  refine Zs 0 [uH (hc + 1#128), uL (hc + 1#128), iW k0.toNat, iW k1.toNat, bF] sz_33 F H fun A w F H => ?_
  refine Nl kk (wp_ret ?_)
  try dsimp only [Exit.then, Exit.inBlock, Exit.jump, Exit.noGoto]
  refine ret1 F Tryz.results268 (res_row (i := 0) (xs := [uH (hc + 1#128), uL (hc + 1#128), iW k0.toNat, iW k1.toNat, bF]) rw_33 F H rfl rfl rfl rfl) ⟨?_, H.below⟩
  rfl
open Sx in
theorem hstep_f (hc : BitVec 128) (k0 k1 : BitVec 32) (w0 : World) : Calls Tryz.prog 268 #[.agg #[uH hc, uL hc, iW k0.toNat, iW k1.toNat, bF]] w0 fun e w' => e = .returned (L50 hc k0 k1) ∧ Below w0.heap.size w0 w' := by
 refine En Tryz.func268 Tryz.ntmps268 fun A F => ?_
 have H := Sx.Own.start w0
 refine Sp fun _ kk => Zb F (d_box F H rfl rfl [uH hc, uL hc, iW k0.toNat, iW k1.toNat, bF] rfl) fun g1 A w F H => ?_
 refine Zb F (d_alloc H rfl L5 zero_33) fun g2 A w F H => ?_
 refine Nl kk (Sx.seq fun K2 hK2 => Sp fun _ kk => ?_)
 iterate 2 (refine Av F ?_; intro A F)
 refine Nl kk (condF F rfl (wp_skip (hK2 _ _ (Sp fun _ kk => ?_))))
 iterate 2 (refine Av F ?_; intro A F)
 refine Zv F (d_un (v := bT) F rfl rfl rfl) fun A F => ?_
 refine Av F fun A F => ?_
 refine Zs 1 (L51 hc k0 k1) sz_4 F H fun A w F H => ?_
 refine Nl kk (Sp fun _ kk => Av F fun A F => ?_)
 refine Zs 0 (L51 hc k0 k1) sz_33 F H fun A w F H => ?_
 refine Nl kk (wp_ret ?_)
 try dsimp only [Exit.then, Exit.inBlock, Exit.jump, Exit.noGoto]
 refine ret1 F Tryz.results268 (res_row (i := 0) (xs := [uH hc, uL hc, iW k0.toNat, iW k1.toNat, bT]) rw_33 F H rfl rfl rfl rfl) ⟨?_, H.below⟩
 rfl
theorem hstep_c (c : BitVec 128) (k0 k1 : BitVec 32) (b : Bool) (w : World) : Calls Tryz.prog 268 #[.agg #[.int .u64 (Wd.hi c).toNat, .int .u64 (Wd.lo c).toNat, .int .u32 k0.toNat, .int .u32 k1.toNat, .bool b]] w fun e w' => e = .returned (.agg #[.int .u64 (Wd.hi (Hf.step ⟨c, k0, k1, b⟩).c).toNat, .int .u64 (Wd.lo (Hf.step ⟨c, k0, k1, b⟩).c).toNat, .int .u32 (Hf.step ⟨c, k0, k1, b⟩).k0.toNat, .int .u32 (Hf.step ⟨c, k0, k1, b⟩).k1.toNat, .bool (Hf.step ⟨c, k0, k1, b⟩).b]) ∧ Below w.heap.size w w' := by
  cases b
  · exact hstep_f c k0 k1 w
  · exact hstep_t c k0 k1 w
theorem Wd.bit0 (n : BitVec 128) : Wd.bit n 0 = (Hf.odd n).toNat := rfl
theorem Hf.bit1 {n : BitVec 128} {b : Bool} (h : Hf.odd n = b) : (((Wd.bit n 0 : Nat) : Int) == 1) = b := by rw [Wd.bit0, h]; cases b <;> rfl
abbrev L52 (x0 : BitVec 128) (x1 x2 : BitVec 32) (x3 : Bool) : Value := .agg #[uH x0, uL x0, iW x1.toNat, iW x2.toNat, .bool x3]
abbrev L53 (x0 : BitVec 128) (x1 x2 : BitVec 32) (x3 : Bool) : List Value := [uH x0, uL x0, iW x1.toNat, iW x2.toNat, .bool x3]
open Sx in
theorem hjump_e (hc : BitVec 128) (k0 k1 : BitVec 32) (hb : Bool) (n : BitVec 128) (ho : Hf.odd n = false) (w0 : World) : Calls Tryz.prog 267 #[(L52 hc k0 k1 hb), .agg #[uH n, uL n]] w0 fun e w' => e = .returned (.agg #[uH (hc + n >>> 1), uL (hc + n >>> 1), iW k0.toNat, iW k1.toNat, .bool hb]) ∧ Below w0.heap.size w0 w' := by
 refine En Tryz.func267 Tryz.ntmps267 fun A F => ?_
 have H := Sx.Own.start w0
 refine Sp fun _ kk => Zb F (d_box F H rfl rfl (L53 hc k0 k1 hb) rfl) fun g1 A w F H => ?_
 refine Zb F (d_box F H rfl rfl [uH n, uL n] rfl) fun g2 A w F H => ?_
 refine Zb F (d_alloc H rfl L5 zero_33) fun g3 A w F H => ?_
 refine Nl kk (Sx.seq fun K2 hK2 => Sp fun _ kk => Av F fun A F => ?_)
 refine Zw F (Dc if_232 F H (wbit_c n 0 (by omega) _)) fun A w F H => ?_
 refine Zv F (Bn bF F rfl rfl rfl (i_eq (Hf.bit1 ho))) fun A F => ?_
 refine Nl kk (condF F rfl (wp_skip (hK2 _ _ (Sx.seq fun K4 hK4 => ?_))))
 have F := F.tq [(0, (L52 hc k0 k1 hb)), (1, .agg #[uH n, uL n]), (2, pT g1 0), (3, pT g2 0), (4, pT g3 0), (5, .agg #[uH n, uL n]), (6, iI (Wd.bit n 0)), (7, bF)] rfl
 refine Dn F [some (pT g1 0), some (.agg #[uH hc, uL hc]), some (.agg #[uH n, uL n]), some (.agg #[uH (n >>> 1), uL (n >>> 1)]), some (.tuple #[.agg #[uH (hc + (n >>> 1)), uL (hc + (n >>> 1))], .bool (Wd.over hc (n >>> 1))]), some (.tuple #[.agg #[uH (hc + (n >>> 1)), uL (hc + (n >>> 1))], .bool (Wd.over hc (n >>> 1))]), some (.agg #[uH (hc + (n >>> 1)), uL (hc + (n >>> 1))]), some (.bool (Wd.over hc (n >>> 1))), some (pT g1 0), none] (fun L A w => Sx.Own w0 w [(true, g3, L5), (true, g2, [uH n, uL n]), (true, g1, (cond (L 9) [uH (hc + (n >>> 1)), uL (hc + (n >>> 1)), iW k0.toNat, iW k1.toNat, .bool hb] (L53 hc k0 k1 hb)))] []) H.drew ?_ ?_
 ·refine ⟨?_, ?_, ?_, ?_, ?_, ?_, ?_, ?_, ?_, ?_, trivial⟩
  ·exact Sa
  ·intro L A w up hun hd F H
   have f9 : L 9 = false := up 9 1 rfl hun
   have G := H; rw [f9] at G
   refine step_on rfl (Lr 2 [uH hc, uL hc] rw_26 F G) ?_
   rintro xv w' ⟨hx, rfl⟩
   exact ⟨Cs hx, H⟩
  ·exact SV (fun _ _ _ F H => Lr 1 [uH n, uL n] rw_26 F H)
  ·intro L A w up hun hd F H
   have f9 : L 9 = false := up 9 3 rfl hun
   rw [f9] at H
   refine step_on rfl (Dc if_125 F H (wrightN_c n 1 (by omega) _)) ?_
   rintro xv w' ⟨hx, H⟩
   exact ⟨Cs hx, (by show Sx.Own _ _ _ _; rw [show Inv.add L 3 9 = false from f9]; exact H)⟩
  ·intro L A w up hun hd F H
   have f9 : L 9 = false := up 9 4 rfl hun
   rw [f9] at H
   refine step_on rfl (Dc if_14 F H (wadd_c hc (n >>> 1) _)) ?_
   rintro xv w' ⟨hx, H⟩
   exact ⟨Cs hx, (by show Sx.Own _ _ _ _; rw [show Inv.add L 4 9 = false from f9]; exact H)⟩
  ·exact Sa
  ·exact Sa
  ·exact Sa
  ·exact Sa
  ·intro L A w up hun hd F H
   have f9 : L 9 = false := hun
   rw [f9] at H
   refine step_on rfl (d_store (i := 2) (xs := [uH (hc + (n >>> 1)), uL (hc + (n >>> 1))]) (us := [uH (hc + (n >>> 1)), uL (hc + (n >>> 1)), iW k0.toNat, iW k1.toNat, .bool hb]) sz_26 F H rfl rfl rfl rfl rfl rfl rfl (Nat.le_of_ble_eq_true rfl) rfl) ?_
   intro xv w' H
   exact ⟨Cn, H⟩
 ·intro L A w hL F H
  have t9 : L 9 = true := hL 9 rfl
  rw [t9] at H
  have F := F.tq [(2, pT g1 0), (4, pT g3 0)] rfl
  refine hK4 _ _ (Sp fun _ kk => Av F fun A F => ?_)
  refine Zs 0 [uH (hc + (n >>> 1)), uL (hc + (n >>> 1)), iW k0.toNat, iW k1.toNat, .bool hb] sz_33 F H fun A w F H => ?_
  refine Nl kk (wp_ret ?_)
  try dsimp only [Exit.then, Exit.inBlock, Exit.jump, Exit.noGoto]
  refine ret1 F Tryz.results267 (res_row (i := 0) (xs := [uH (hc + (n >>> 1)), uL (hc + (n >>> 1)), iW k0.toNat, iW k1.toNat, .bool hb]) rw_33 F H rfl rfl rfl rfl) ⟨?_, H.below⟩
  rfl
abbrev L54 (x0 : BitVec 128) (x1 x2 : BitVec 32) (x3 : Bool) : List Value := [uH ((Hf.step ⟨x0, x1, x2, x3⟩).c), uL ((Hf.step ⟨x0, x1, x2, x3⟩).c), iW (((Hf.step ⟨x0, x1, x2, x3⟩).k0).toNat), iW (((Hf.step ⟨x0, x1, x2, x3⟩).k1).toNat), .bool ((Hf.step ⟨x0, x1, x2, x3⟩).b)]
abbrev L55 (x0 : BitVec 128) (x1 x2 : BitVec 32) (x3 : Bool) (x4 : BitVec 128) : Value := .agg #[uH (((Hf.step ⟨x0, x1, x2, x3⟩).c) + (x4 >>> 1)), uL (((Hf.step ⟨x0, x1, x2, x3⟩).c) + (x4 >>> 1))]
abbrev L56 (x0 : BitVec 128) (x1 x2 : BitVec 32) (x3 : Bool) (x4 : BitVec 128) : Value := .tuple #[.agg #[uH (((Hf.step ⟨x0, x1, x2, x3⟩).c) + (x4 >>> 1)), uL (((Hf.step ⟨x0, x1, x2, x3⟩).c) + (x4 >>> 1))], .bool (Wd.over ((Hf.step ⟨x0, x1, x2, x3⟩).c) (x4 >>> 1))]
abbrev L57 (x0 : BitVec 128) (x1 x2 : BitVec 32) (x3 : Bool) (x4 : BitVec 128) : List Value := [uH (((Hf.step ⟨x0, x1, x2, x3⟩).c) + (x4 >>> 1)), uL (((Hf.step ⟨x0, x1, x2, x3⟩).c) + (x4 >>> 1)), iW (((Hf.step ⟨x0, x1, x2, x3⟩).k0).toNat), iW (((Hf.step ⟨x0, x1, x2, x3⟩).k1).toNat), .bool ((Hf.step ⟨x0, x1, x2, x3⟩).b)]
open Sx in
theorem hjump_o (hc : BitVec 128) (k0 k1 : BitVec 32) (hb : Bool) (n : BitVec 128) (ho : Hf.odd n = true) (w0 : World) : Calls Tryz.prog 267 #[(L52 hc k0 k1 hb), .agg #[uH n, uL n]] w0 fun e w' => e = .returned (.agg #[uH ((({ Hf.step ⟨hc, k0, k1, hb⟩ with c := (Hf.step ⟨hc, k0, k1, hb⟩).c + n >>> 1 } : Hf.St)).c), uL ((({ Hf.step ⟨hc, k0, k1, hb⟩ with c := (Hf.step ⟨hc, k0, k1, hb⟩).c + n >>> 1 } : Hf.St)).c), iW (((({ Hf.step ⟨hc, k0, k1, hb⟩ with c := (Hf.step ⟨hc, k0, k1, hb⟩).c + n >>> 1 } : Hf.St)).k0).toNat), iW (((({ Hf.step ⟨hc, k0, k1, hb⟩ with c := (Hf.step ⟨hc, k0, k1, hb⟩).c + n >>> 1 } : Hf.St)).k1).toNat), .bool ((({ Hf.step ⟨hc, k0, k1, hb⟩ with c := (Hf.step ⟨hc, k0, k1, hb⟩).c + n >>> 1 } : Hf.St)).b)]) ∧ Below w0.heap.size w0 w' := by
 refine En Tryz.func267 Tryz.ntmps267 fun A F => ?_
 have H := Sx.Own.start w0
 refine Sp fun _ kk => Zb F (d_box F H rfl rfl (L53 hc k0 k1 hb) rfl) fun g1 A w F H => ?_
 refine Zb F (d_box F H rfl rfl [uH n, uL n] rfl) fun g2 A w F H => ?_
 refine Zb F (d_alloc H rfl L5 zero_33) fun g3 A w F H => ?_
 refine Nl kk (Sx.seq fun K2 hK2 => Sp fun _ kk => Av F fun A F => ?_)
 refine Zw F (Dc if_232 F H (wbit_c n 0 (by omega) _)) fun A w F H => ?_
 refine Zv F (Bn bT F rfl rfl rfl (i_eq (Hf.bit1 ho))) fun A F => ?_
 refine Nl kk (condT F rfl (Sx.plain ?_))
 refine Av F fun A F => ?_
 refine Zw F (Dc if_268 F H (hstep_c hc k0 k1 hb _)) fun A w F H => ?_
 refine Zs 2 (L54 hc k0 k1 hb) sz_33 F H fun A w F H => ?_
 refine Sx.nil (hK2 _ _ (Sx.seq fun K4 hK4 => ?_))
 have F := F.tq [(0, (L52 hc k0 k1 hb)), (1, .agg #[uH n, uL n]), (2, pT g1 0), (3, pT g2 0), (4, pT g3 0), (5, .agg #[uH n, uL n]), (6, iI (Wd.bit n 0)), (7, bT), (8, (L52 hc k0 k1 hb)), (9, .agg #[uH ((Hf.step ⟨hc, k0, k1, hb⟩).c), uL ((Hf.step ⟨hc, k0, k1, hb⟩).c), iW (((Hf.step ⟨hc, k0, k1, hb⟩).k0).toNat), iW (((Hf.step ⟨hc, k0, k1, hb⟩).k1).toNat), .bool ((Hf.step ⟨hc, k0, k1, hb⟩).b)])] rfl
 refine Dn F [some (pT g1 0), some (.agg #[uH ((Hf.step ⟨hc, k0, k1, hb⟩).c), uL ((Hf.step ⟨hc, k0, k1, hb⟩).c)]), some (.agg #[uH n, uL n]), some (.agg #[uH (n >>> 1), uL (n >>> 1)]), some (L56 hc k0 k1 hb n), some (L56 hc k0 k1 hb n), some (L55 hc k0 k1 hb n), some (.bool (Wd.over ((Hf.step ⟨hc, k0, k1, hb⟩).c) (n >>> 1))), some (pT g1 0), none] (fun L A w => Sx.Own w0 w [(true, g3, L5), (true, g2, [uH n, uL n]), (true, g1, (cond (L 9) (L57 hc k0 k1 hb n) (L54 hc k0 k1 hb)))] []) H.drew ?_ ?_
 ·refine ⟨?_, ?_, ?_, ?_, ?_, ?_, ?_, ?_, ?_, ?_, trivial⟩
  ·exact Sa
  ·intro L A w up hun hd F H
   have f9 : L 9 = false := up 9 1 rfl hun
   have G := H; rw [f9] at G
   refine step_on rfl (Lr 2 [uH ((Hf.step ⟨hc, k0, k1, hb⟩).c), uL ((Hf.step ⟨hc, k0, k1, hb⟩).c)] rw_26 F G) ?_
   rintro xv w' ⟨hx, rfl⟩
   exact ⟨Cs hx, H⟩
  ·exact SV (fun _ _ _ F H => Lr 1 [uH n, uL n] rw_26 F H)
  ·intro L A w up hun hd F H
   have f9 : L 9 = false := up 9 3 rfl hun
   rw [f9] at H
   refine step_on rfl (Dc if_125 F H (wrightN_c n 1 (by omega) _)) ?_
   rintro xv w' ⟨hx, H⟩
   exact ⟨Cs hx, (by show Sx.Own _ _ _ _; rw [show Inv.add L 3 9 = false from f9]; exact H)⟩
  ·intro L A w up hun hd F H
   have f9 : L 9 = false := up 9 4 rfl hun
   rw [f9] at H
   refine step_on rfl (Dc if_14 F H (wadd_c ((Hf.step ⟨hc, k0, k1, hb⟩).c) (n >>> 1) _)) ?_
   rintro xv w' ⟨hx, H⟩
   exact ⟨Cs hx, (by show Sx.Own _ _ _ _; rw [show Inv.add L 4 9 = false from f9]; exact H)⟩
  ·exact Sa
  ·exact Sa
  ·exact Sa
  ·exact Sa
  ·intro L A w up hun hd F H
   have f9 : L 9 = false := hun
   rw [f9] at H
   refine step_on rfl (d_store (i := 2) (xs := [uH (((Hf.step ⟨hc, k0, k1, hb⟩).c) + (n >>> 1)), uL (((Hf.step ⟨hc, k0, k1, hb⟩).c) + (n >>> 1))]) (us := (L57 hc k0 k1 hb n)) sz_26 F H rfl rfl rfl rfl rfl rfl rfl (Nat.le_of_ble_eq_true rfl) rfl) ?_
   intro xv w' H
   exact ⟨Cn, H⟩
 ·intro L A w hL F H
  have t9 : L 9 = true := hL 9 rfl
  rw [t9] at H
  have F := F.tq [(2, pT g1 0), (4, pT g3 0)] rfl
  refine hK4 _ _ (Sp fun _ kk => Av F fun A F => ?_)
  refine Zs 0 (L57 hc k0 k1 hb n) sz_33 F H fun A w F H => ?_
  refine Nl kk (wp_ret ?_)
  try dsimp only [Exit.then, Exit.inBlock, Exit.jump, Exit.noGoto]
  refine ret1 F Tryz.results267 (res_row (i := 0) (xs := [uH (((Hf.step ⟨hc, k0, k1, hb⟩).c) + (n >>> 1)), uL (((Hf.step ⟨hc, k0, k1, hb⟩).c) + (n >>> 1)), iW (((Hf.step ⟨hc, k0, k1, hb⟩).k0).toNat), iW (((Hf.step ⟨hc, k0, k1, hb⟩).k1).toNat), .bool ((Hf.step ⟨hc, k0, k1, hb⟩).b)]) rw_33 F H rfl rfl rfl rfl) ⟨?_, H.below⟩
  rfl
theorem hjump_c (c : BitVec 128) (k0 k1 : BitVec 32) (b : Bool) (n : BitVec 128) (w : World) : Calls Tryz.prog 267 #[.agg #[.int .u64 (Wd.hi c).toNat, .int .u64 (Wd.lo c).toNat, .int .u32 k0.toNat, .int .u32 k1.toNat, .bool b], .agg #[.int .u64 (Wd.hi n).toNat, .int .u64 (Wd.lo n).toNat]] w fun e w' => e = .returned (.agg #[.int .u64 (Wd.hi (Hf.jump ⟨c, k0, k1, b⟩ n).c).toNat, .int .u64 (Wd.lo (Hf.jump ⟨c, k0, k1, b⟩ n).c).toNat, .int .u32 (Hf.jump ⟨c, k0, k1, b⟩ n).k0.toNat, .int .u32 (Hf.jump ⟨c, k0, k1, b⟩ n).k1.toNat, .bool (Hf.jump ⟨c, k0, k1, b⟩ n).b]) ∧ Below w.heap.size w w' := by
  cases ho : Hf.odd n
  · have E : Hf.jump ⟨c, k0, k1, b⟩ n = ⟨c + n >>> 1, k0, k1, b⟩ := by simp only [Hf.jump, Hf.pre, ho]; rfl
    rw [E]; exact hjump_e c k0 k1 b n ho w
  · have E : Hf.jump ⟨c, k0, k1, b⟩ n = { Hf.step ⟨c, k0, k1, b⟩ with c := (Hf.step ⟨c, k0, k1, b⟩).c + n >>> 1 } := by simp only [Hf.jump, Hf.pre, ho, if_true]
    rw [E]; exact hjump_o c k0 k1 b n ho w
section
namespace Sx
section
variable {w : World} {x y : Operand}
theorem eqG_any (w : World) (d : Nat) (c : BitVec 128) (k0 k1 : BitVec 32) (b : Bool) (e : BitVec 128) (l0 l1 : BitVec 32) (f : Bool) : (Op.equalIn (d + 3) 45 (.agg #[.int .u64 (Wd.hi c).toNat, .int .u64 (Wd.lo c).toNat, .int .u32 k0.toNat, .int .u32 k1.toNat, .bool b]) (.agg #[.int .u64 (Wd.hi e).toNat, .int .u64 (Wd.lo e).toNat, .int .u32 l0.toNat, .int .u32 l1.toNat, .bool f])).run Tryz.prog w = .ok (eqbH c k0 k1 b e l0 l1 f) w := by
  have hK : (Op.equalIn (d + 2) 30 (.agg #[.int .u32 k0.toNat, .int .u32 k1.toNat]) (.agg #[.int .u32 l0.toNat, .int .u32 l1.toNat])).run Tryz.prog w = .ok (eq2 k0.toNat k1.toNat l0.toNat l1.toNat) w :=
    run_eq_arr2 w d _ 29 .u32 _ _ _ _ (by kernel_rfl) (by kernel_rfl) Tryz.size_u32 Tryz.agg_u32
  have e1 : eqbH c k0 k1 b e l0 l1 f = (((((Wd.hi c).toNat : Int) == ((Wd.hi e).toNat : Int) && ((Wd.lo c).toNat : Int) == ((Wd.lo e).toNat : Int)) && eq2 k0.toNat k1.toNat l0.toNat l1.toNat) && (b == f)) := by
    rw [← eqb_nat]
    unfold eqbH Wd.eqb eq2
    rw [Bool.eq_iff_iff]
    simp only [decide_eq_true_eq, Bool.and_eq_true, beq_iff_eq]
    constructor
    · rintro ⟨rfl, rfl, rfl, rfl⟩; exact ⟨⟨rfl, rfl, rfl⟩, rfl⟩
    · rintro ⟨⟨rfl, h1, h2⟩, rfl⟩; exact ⟨rfl, BitVec.eq_of_toNat_eq (by omega), BitVec.eq_of_toNat_eq (by omega), rfl⟩
  rw [e1]
  simp [go_sem, hK]
  generalize eq2 (k0.toNat : Int) (k1.toNat : Int) (l0.toNat : Int) (l1.toNat : Int) = q
  generalize ((Wd.hi c).toNat : Int) = c0
  generalize ((Wd.lo c).toNat : Int) = c1
  generalize ((Wd.hi e).toNat : Int) = e0
  generalize ((Wd.lo e).toNat : Int) = e1
  by_cases p1 : c0 = e0
  · by_cases p2 : c1 = e1
    · cases q <;> cases b <;> cases f <;> simp [p1, p2, Result.andThen]
    · simp [p1, p2, Result.andThen]
  · simp [p1, Result.andThen]
theorem gG : Tryz.prog.eqGuardType Tryz.prog.depth 45 = false := by kernel_rfl
theorem i_eqG {c : BitVec 128} {k0 k1 : BitVec 32} {b : Bool} {e : BitVec 128} {l0 l1 : BitVec 32} {f : Bool} {r : Bool} (h : eqbH c k0 k1 b e l0 l1 f = r) : (do eqGuard .eql 45 x y (.agg #[.int .u64 (Wd.hi c).toNat, .int .u64 (Wd.lo c).toNat, .int .u32 k0.toNat, .int .u32 k1.toNat, .bool b]) (.agg #[.int .u64 (Wd.hi e).toNat, .int .u64 (Wd.lo e).toNat, .int .u32 l0.toNat, .int .u32 l1.toNat, .bool f]); binOp .eql 45 (.agg #[.int .u64 (Wd.hi c).toNat, .int .u64 (Wd.lo c).toNat, .int .u32 k0.toNat, .int .u32 k1.toNat, .bool b]) (.agg #[.int .u64 (Wd.hi e).toNat, .int .u64 (Wd.lo e).toNat, .int .u32 l0.toNat, .int .u32 l1.toNat, .bool f]) : Sem Value).run Tryz.prog w = .ok (.bool r) w :=
  run_eq gG (by rw [← h]; exact eqG_any w 9997 c k0 k1 b e l0 l1 f)
end
end Sx
end
def mulhi32 (x : BitVec 32) (c : Nat) : BitVec 32 := BitVec.ofNat 32 (x.toNat * c / 4294967296)
structure Blk where
  a : BitVec 32
  b : BitVec 32
  c : BitVec 32
  d : BitVec 32
  deriving DecidableEq
structure Key where
  a : BitVec 32
  b : BitVec 32
  deriving DecidableEq
namespace Ph
def next (k : Key) : Key := ⟨k.a + 0x9e3779b9#32, k.b + 0xbb67ae85#32⟩
def round (b : Blk) (k : Key) : Blk := ⟨mulhi32 b.c 0xcd9e8d57 ^^^ b.b ^^^ k.a, b.c * 0xcd9e8d57#32, mulhi32 b.a 0xd2511f53 ^^^ b.d ^^^ k.b, b.a * 0xd2511f53#32⟩
end Ph
namespace Ph
theorem ext {x y : Blk} (h0 : x.a = y.a) (h1 : x.b = y.b) (h2 : x.c = y.c) (h3 : x.d = y.d) : x = y := by
  cases x; cases y; simp_all
theorem xx (h x k : BitVec 32) : h ^^^ x ^^^ k ^^^ h ^^^ k = x := by
  rw [show h ^^^ x ^^^ k ^^^ h ^^^ k = (h ^^^ h) ^^^ (k ^^^ k) ^^^ x from by ac_rfl]; simp
def step (s : Blk × Key) : Blk × Key := (round s.1 s.2, next s.2)
def it : Nat → Blk × Key → Blk × Key
  | 0, s => s
  | n + 1, s => step (it n s)
def mix (n : Nat) (b : Blk) (k : Key) : Blk := (it n (b, k)).1
theorem it_add (n m : Nat) (s : Blk × Key) : it (n + m) s = it m (it n s) := by
  induction m with
  | zero => rfl
  | succ m ih => show step (it (n + m) s) = step (it m (it n s)); rw [ih]
end Ph


def fnF (b : Nat) : Value := .func (.func 275) #[] #[.pointer (some ⟨b, 0, none⟩)]
def fnB (b : Nat) : Value := .func (.func 277) #[] #[.pointer (some ⟨b, 0, none⟩)]
def fl (B : Nat → Nat) (n : Nat) : List Value := (List.range n).flatMap fun i => [fnF (B i), fnB (B i)]
theorem fl_congr (B B' : Nat → Nat) (n : Nat) (h : ∀ i, i < n → B i = B' i) : fl B n = fl B' n := by
  unfold fl
  rw [List.flatMap_def, List.flatMap_def, List.map_congr_left]
  intro i hi
  rw [h i (List.mem_range.1 hi)]

namespace Hf
def blk (c : BitVec 128) : Blk := ⟨low (Wd.lo c), top (Wd.lo c), low (Wd.hi c), top (Wd.hi c)⟩
def out (s : St) : Blk := Ph.mix 10 (blk s.c) ⟨s.k0, s.k1⟩
def word (s : St) : BitVec 64 := if s.b then pair (out s).c (out s).d else pair (out s).a (out s).b
end Hf
namespace Hf
def it : Nat → St → St
  | 0, s => s
  | n + 1, s => step (it n s)
end Hf
@[go_sem] theorem Tryz.eq_key9 (w : World) (a0 a1 b0 b1 : Int) : (Op.equalIn 9999 31 (.agg #[.int .u32 a0, .int .u32 a1]) (.agg #[.int .u32 b0, .int .u32 b1])).run Tryz.prog w = .ok (eq2 a0 a1 b0 b1) w := run_eq_arr2 w 9997 _ 29 .u32 _ _ _ _ Tryz.underlying31 Tryz.underlying29 Tryz.size_u32 Tryz.agg_u32
theorem a1 {x y : Value} (h : x = y) : #[x] = #[y] := by rw [h]
theorem a2 {x y u v : Value} (h : x = y) (k : u = v) : #[x, u] = #[y, v] := by rw [h, k]
open Sx in
theorem own12_c (hc : BitVec 128) (k0 k1 : BitVec 32) (hb : Bool) (w0 : World) : Calls Tryz.prog 28 #[(L52 hc k0 k1 hb)] w0 fun e w' => e = .returned (L52 hc k0 k1 hb) ∧ Below w0.heap.size w0 w' := by
 refine En Tryz.func28 Tryz.ntmps28 fun A F => ?_
 have H := Sx.Own.start w0
 refine Sp fun _ kk => Zb F (d_box F H rfl rfl (L53 hc k0 k1 hb) rfl) fun g1 A w F H => ?_
 refine Zb F (d_alloc H rfl L5 zero_45) fun g2 A w F H => ?_
 refine Nl kk (Sp fun _ kk => ?_)
 iterate 6 (refine Av F ?_; intro A F)
 refine Zv F (d_build (qs := #[(0, .agg #[uH hc, uL hc]), (1, .agg #[iW k0.toNat, iW k1.toNat]), (2, .bool hb)]) (v := (L52 hc k0 k1 hb)) F rfl rfl (by kernel_rfl)) fun A F => ?_
 refine Zs 0 (L53 hc k0 k1 hb) sz_45 F H fun A w F H => ?_
 refine Nl kk (wp_ret ?_)
 try dsimp only [Exit.then, Exit.inBlock, Exit.jump]
 refine ret1 F Tryz.results28 (res_row (i := 0) (xs := [uH hc, uL hc, iW k0.toNat, iW k1.toNat, .bool hb]) rw_45 F H rfl rfl rfl rfl) ⟨?_, H.below⟩
 rfl
open Sx in
theorem own10_c (ss si : BitVec 128) (w0 : World) : Calls Tryz.prog 27 #[(L30 ss si)] w0 fun e w' => e = .returned (L30 ss si) ∧ Below w0.heap.size w0 w' := by
 refine En Tryz.func27 Tryz.ntmps27 fun A F => ?_
 have H := Sx.Own.start w0
 refine Sp fun _ kk => Zb F (d_box F H rfl rfl [uH ss, uL ss, uH si, uL si] rfl) fun g1 A w F H => ?_
 refine Zb F (d_alloc H rfl L3 zero_43) fun g2 A w F H => ?_
 refine Nl kk (Sp fun _ kk => ?_)
 iterate 4 (refine Av F ?_; intro A F)
 refine Zv F (d_build (qs := #[(0, .agg #[uH ss, uL ss]), (1, .agg #[uH si, uL si])]) (v := (L30 ss si)) F rfl rfl (by kernel_rfl)) fun A F => ?_
 refine Zs 0 [uH ss, uL ss, uH si, uL si] sz_43 F H fun A w F H => ?_
 refine Nl kk (wp_ret ?_)
 try dsimp only [Exit.then, Exit.inBlock, Exit.jump]
 refine ret1 F Tryz.results27 (res_row (i := 0) (xs := [uH ss, uL ss, uH si, uL si]) rw_43 F H rfl rfl rfl rfl) ⟨?_, H.below⟩
 rfl
theorem im_181 : Sx.isM Tryz.prog 131 "knucklebone/gen.alone" 181 := fun _ _ => by kernel_rfl
theorem im_185 : Sx.isM Tryz.prog 131 "knucklebone/gen.right" 185 := fun _ _ => by kernel_rfl
theorem im_183 : Sx.isM Tryz.prog 131 "knucklebone/gen.jump" 183 := fun _ _ => by kernel_rfl
theorem im_182 : Sx.isM Tryz.prog 131 "knucklebone/gen.bits" 182 := fun _ _ => by kernel_rfl
theorem im_189 : Sx.isM Tryz.prog 131 "knucklebone/gen.word" 189 := fun _ _ => by kernel_rfl
theorem im_187 : Sx.isM Tryz.prog 131 "knucklebone/gen.step" 187 := fun _ _ => by kernel_rfl
theorem im_193 : Sx.isM Tryz.prog 132 "knucklebone/gen.alone" 193 := fun _ _ => by kernel_rfl
theorem im_197 : Sx.isM Tryz.prog 132 "knucklebone/gen.right" 197 := fun _ _ => by kernel_rfl
theorem im_195 : Sx.isM Tryz.prog 132 "knucklebone/gen.jump" 195 := fun _ _ => by kernel_rfl
theorem im_240 : Sx.isM Tryz.prog 133 "knucklebone/gen.alone" 240 := fun _ _ => by kernel_rfl
theorem im_244 : Sx.isM Tryz.prog 133 "knucklebone/gen.right" 244 := fun _ _ => by kernel_rfl
theorem im_242 : Sx.isM Tryz.prog 133 "knucklebone/gen.jump" 242 := fun _ _ => by kernel_rfl
theorem im_258 : Sx.isM Tryz.prog 134 "knucklebone/gen.alone" 258 := fun _ _ => by kernel_rfl
theorem im_262 : Sx.isM Tryz.prog 134 "knucklebone/gen.right" 262 := fun _ _ => by kernel_rfl
theorem im_260 : Sx.isM Tryz.prog 134 "knucklebone/gen.jump" 260 := fun _ _ => by kernel_rfl
open Sx in
theorem gof1_c  (w0 : World) : Calls Tryz.prog 26 #[iI 1] w0 fun e w' => e = .returned (.iface 131 (.agg #[])) ∧ Below w0.heap.size w0 w' := by
 refine En Tryz.func26 Tryz.ntmps26 fun A F => ?_
 have H := Sx.Own.start w0
 refine Sp fun _ kk => Av F fun A F => ?_
 refine Nl kk (Sx.seq fun K2 hK2 => Sp fun _ kk => Av F fun A F => ?_)
 refine Nl kk (wp_block (Sp fun _ kk => ?_))
 iterate 2 (refine Av F ?_; intro A F)
 refine Nl kk (condT F rfl (Sp fun _ kk => Zv F (d_build (qs := #[]) (v := .agg #[]) F rfl rfl (by kernel_rfl)) fun A F => ?_))
 refine Zv F (d_mkI (v := .iface 131 (.agg #[])) F rfl rfl (by kernel_rfl)) fun A F => ?_
 refine Av F fun A F => ?_
 refine Nl kk (wp_ret ?_)
 try dsimp only [Exit.then, Exit.inBlock, Exit.jump, Exit.noGoto]
 refine ret1 F Tryz.results26 (res_tmp F rfl) ⟨?_, H.below⟩
 rfl
open Sx in
theorem gof2_c  (w0 : World) : Calls Tryz.prog 26 #[iI 2] w0 fun e w' => e = .returned (.iface 132 (.agg #[])) ∧ Below w0.heap.size w0 w' := by
 refine En Tryz.func26 Tryz.ntmps26 fun A F => ?_
 have H := Sx.Own.start w0
 refine Sp fun _ kk => Av F fun A F => ?_
 refine Nl kk (Sx.seq fun K2 hK2 => Sp fun _ kk => Av F fun A F => ?_)
 refine Nl kk (wp_block (Sp fun _ kk => ?_))
 iterate 2 (refine Av F ?_; intro A F)
 refine Nl kk (condF F rfl (Sp fun _ kk => ?_))
 iterate 2 (refine Av F ?_; intro A F)
 refine Nl kk (condT F rfl (Sp fun _ kk => Zv F (d_build (qs := #[]) (v := .agg #[]) F rfl rfl (by kernel_rfl)) fun A F => ?_))
 refine Zv F (d_mkI (v := .iface 132 (.agg #[])) F rfl rfl (by kernel_rfl)) fun A F => ?_
 refine Av F fun A F => ?_
 refine Nl kk (wp_ret ?_)
 try dsimp only [Exit.then, Exit.inBlock, Exit.jump, Exit.noGoto]
 refine ret1 F Tryz.results26 (res_tmp F rfl) ⟨?_, H.below⟩
 rfl
open Sx in
theorem gof3_c  (w0 : World) : Calls Tryz.prog 26 #[iI 3] w0 fun e w' => e = .returned (.iface 133 (.agg #[])) ∧ Below w0.heap.size w0 w' := by
 refine En Tryz.func26 Tryz.ntmps26 fun A F => ?_
 have H := Sx.Own.start w0
 refine Sp fun _ kk => Av F fun A F => ?_
 refine Nl kk (Sx.seq fun K2 hK2 => Sp fun _ kk => Av F fun A F => ?_)
 refine Nl kk (wp_block (Sp fun _ kk => ?_))
 iterate 2 (refine Av F ?_; intro A F)
 refine Nl kk (condF F rfl (Sp fun _ kk => ?_))
 iterate 2 (refine Av F ?_; intro A F)
 refine Nl kk (condF F rfl (Sp fun _ kk => ?_))
 iterate 2 (refine Av F ?_; intro A F)
 refine Nl kk (condT F rfl (Sp fun _ kk => Zv F (d_build (qs := #[]) (v := .agg #[]) F rfl rfl (by kernel_rfl)) fun A F => ?_))
 refine Zv F (d_mkI (v := .iface 133 (.agg #[])) F rfl rfl (by kernel_rfl)) fun A F => ?_
 refine Av F fun A F => ?_
 refine Nl kk (wp_ret ?_)
 try dsimp only [Exit.then, Exit.inBlock, Exit.jump, Exit.noGoto]
 refine ret1 F Tryz.results26 (res_tmp F rfl) ⟨?_, H.below⟩
 rfl
open Sx in
theorem gof4_c  (w0 : World) : Calls Tryz.prog 26 #[iI 4] w0 fun e w' => e = .returned (.iface 134 (.agg #[])) ∧ Below w0.heap.size w0 w' := by
 refine En Tryz.func26 Tryz.ntmps26 fun A F => ?_
 have H := Sx.Own.start w0
 refine Sp fun _ kk => Av F fun A F => ?_
 refine Nl kk (Sx.seq fun K2 hK2 => Sp fun _ kk => Av F fun A F => ?_)
 refine Nl kk (wp_block (Sp fun _ kk => ?_))
 iterate 2 (refine Av F ?_; intro A F)
 refine Nl kk (condF F rfl (Sp fun _ kk => ?_))
 iterate 2 (refine Av F ?_; intro A F)
 refine Nl kk (condF F rfl (Sp fun _ kk => ?_))
 iterate 2 (refine Av F ?_; intro A F)
 refine Nl kk (condF F rfl (Sp fun _ kk => ?_))
 iterate 2 (refine Av F ?_; intro A F)
 refine Nl kk (condT F rfl (Sp fun _ kk => Zv F (d_build (qs := #[]) (v := .agg #[]) F rfl rfl (by kernel_rfl)) fun A F => ?_))
 refine Zv F (d_mkI (v := .iface 134 (.agg #[])) F rfl rfl (by kernel_rfl)) fun A F => ?_
 refine Av F fun A F => ?_
 refine Nl kk (wp_ret ?_)
 try dsimp only [Exit.then, Exit.inBlock, Exit.jump, Exit.noGoto]
 refine ret1 F Tryz.results26 (res_tmp F rfl) ⟨?_, H.below⟩
 rfl
open Sx in
theorem gofN_c (gk : Int) (hk : gk ≠ 1 ∧ gk ≠ 2 ∧ gk ≠ 3 ∧ gk ≠ 4) (w0 : World) : Calls Tryz.prog 26 #[iI gk] w0 fun e w' => e = .returned (.nilIface) ∧ Below w0.heap.size w0 w' := by
 refine En Tryz.func26 Tryz.ntmps26 fun A F => ?_
 have H := Sx.Own.start w0
 refine Sp fun _ kk => Av F fun A F => ?_
 refine Nl kk (Sx.seq fun K2 hK2 => Sp fun _ kk => Av F fun A F => ?_)
 refine Nl kk (wp_block (Sp fun _ kk => Zv F (Bn bF F rfl rfl rfl (i_eq (beq_false_of_ne (by omega)))) fun A F => ?_))
 refine Av F fun A F => ?_
 refine Nl kk (condF F rfl (Sp fun _ kk => Zv F (Bn bF F rfl rfl rfl (i_eq (beq_false_of_ne (by omega)))) fun A F => ?_))
 refine Av F fun A F => ?_
 refine Nl kk (condF F rfl (Sp fun _ kk => Zv F (Bn bF F rfl rfl rfl (i_eq (beq_false_of_ne (by omega)))) fun A F => ?_))
 refine Av F fun A F => ?_
 refine Nl kk (condF F rfl (Sp fun _ kk => Zv F (Bn bF F rfl rfl rfl (i_eq (beq_false_of_ne (by omega)))) fun A F => ?_))
 refine Av F fun A F => ?_
 refine Nl kk (condF F rfl (wp_skip (hK2 _ _ (Sp fun _ kk => Av F fun A F => ?_))))
 refine Nl kk (wp_ret ?_)
 try dsimp only [Exit.then, Exit.inBlock, Exit.jump, Exit.noGoto]
 refine ret1 F Tryz.results26 (res_tmp F rfl) ⟨?_, H.below⟩
 rfl
abbrev L58 (x0 : Int) (x1 : BitVec 64) (x2 : St) (x3 x4 x5 : BitVec 128) (x6 x7 : BitVec 32) (x8 : Bool) : Value := .agg #[iI x0, uN x1, uN x2.a, uN x2.b, uN x2.c, uN x2.d, uH x3, uL x3, uH x4, uL x4, uH x5, uL x5, iW x6.toNat, iW x7.toNat, .bool x8]
abbrev L59 (x0 : BitVec 64) : Value := .agg #[iI 1, uN x0, iU 0, iU 0, iU 0, iU 0, uN (Wd.hi 0#128), uN (Wd.lo 0#128), uN (Wd.hi 0#128), uN (Wd.lo 0#128), uN (Wd.hi 0#128), uN (Wd.lo 0#128), iW 0, iW 0, bF]
abbrev L60 (x0 : Int) (x1 : BitVec 64) (x2 : St) (x3 x4 x5 : BitVec 128) (x6 x7 : BitVec 32) (x8 : Bool) : List Value := [iI x0, uN x1, uN x2.a, uN x2.b, uN x2.c, uN x2.d, uH x3, uL x3, uH x4, uL x4, uH x5, uL x5, iW x6.toNat, iW x7.toNat, .bool x8]
abbrev L61 (x0 : BitVec 64) : List Value := [iI 1, uN x0, iU 0, iU 0, iU 0, iU 0, uN (Wd.hi 0#128), uN (Wd.lo 0#128), uN (Wd.hi 0#128), uN (Wd.lo 0#128), uN (Wd.hi 0#128), uN (Wd.lo 0#128), iW 0, iW 0, bF]
open Sx in
theorem galone1_c (gk : Int) (gm : BitVec 64) (gx : St) (ps pi hc : BitVec 128) (k0 k1 : BitVec 32) (hb : Bool) (w0 : World) : Calls Tryz.prog 181 #[.agg #[], (L58 gk gm gx ps pi hc k0 k1 hb)] w0 fun e w' => e = .returned (L59 gm) ∧ Below w0.heap.size w0 w' := by
 refine En Tryz.func181 Tryz.ntmps181 fun A F => ?_
 have H := Sx.Own.start w0
 refine Sp fun _ kk => Zb F (d_box F H rfl rfl [] rfl) fun g1 A w F H => ?_
 refine Zb F (d_box F H rfl rfl (L60 gk gm gx ps pi hc k0 k1 hb) rfl) fun g2 A w F H => ?_
 refine Zb F (d_alloc H rfl L6 zero_35) fun g3 A w F H => ?_
 refine Nl kk (Sp fun _ kk => ?_)
 iterate 2 (refine Av F ?_; intro A F)
 refine Zv F (d_build (qs := #[(0, iI 1), (1, uN gm)]) (v := (L59 gm)) F rfl rfl (by kernel_rfl)) fun A F => ?_
 refine Zs 0 (L61 gm) sz_35 F H fun A w F H => ?_
 refine Nl kk (wp_ret ?_)
 try dsimp only [Exit.then, Exit.inBlock, Exit.jump, Exit.noGoto]
 refine ret1 F Tryz.results181 (res_row (i := 0) (xs := [iI 1, uN gm, iU 0, iU 0, iU 0, iU 0, uN (Wd.hi 0#128), uN (Wd.lo 0#128), uN (Wd.hi 0#128), uN (Wd.lo 0#128), uN (Wd.hi 0#128), uN (Wd.lo 0#128), iW 0, iW 0, bF]) rw_35 F H rfl rfl rfl rfl) ⟨?_, H.below⟩
 rfl
open Sx in
theorem gright1_c (gk : Int) (gm : BitVec 64) (gx : St) (ps pi hc : BitVec 128) (k0 k1 : BitVec 32) (hb : Bool) (w0 : World) : Calls Tryz.prog 185 #[.agg #[], (L58 gk gm gx ps pi hc k0 k1 hb)] w0 fun e w' => e = .returned (bT) ∧ Below w0.heap.size w0 w' := by
 refine En Tryz.func185 Tryz.ntmps185 fun A F => ?_
 have H := Sx.Own.start w0
 refine Sp fun _ kk => Zb F (d_box F H rfl rfl [] rfl) fun g1 A w F H => ?_
 refine Zb F (d_box F H rfl rfl (L60 gk gm gx ps pi hc k0 k1 hb) rfl) fun g2 A w F H => ?_
 refine Av F fun A F => ?_
 refine Nl kk (Sp fun _ kk => Av F fun A F => ?_)
 refine Nl kk (wp_ret ?_)
 try dsimp only [Exit.then, Exit.inBlock, Exit.jump, Exit.noGoto]
 refine ret1 F Tryz.results185 (res_tmp F rfl) ⟨?_, H.below⟩
 rfl
open Sx in
theorem gbits1_c  (w0 : World) : Calls Tryz.prog 182 #[.agg #[]] w0 fun e w' => e = .returned (iI 63) ∧ Below w0.heap.size w0 w' := by
 refine En Tryz.func182 Tryz.ntmps182 fun A F => ?_
 have H := Sx.Own.start w0
 refine Sp fun _ kk => Zb F (d_box F H rfl rfl [] rfl) fun g1 A w F H => ?_
 refine Av F fun A F => ?_
 refine Nl kk (Sp fun _ kk => Av F fun A F => ?_)
 refine Nl kk (wp_ret ?_)
 try dsimp only [Exit.then, Exit.inBlock, Exit.jump, Exit.noGoto]
 refine ret1 F Tryz.results182 (res_tmp F rfl) ⟨?_, H.below⟩
 rfl
abbrev L62 (x0 : St) : Value := .agg #[iI 2, iU 0, uN x0.a, uN x0.b, uN x0.c, uN x0.d, uN (Wd.hi 0#128), uN (Wd.lo 0#128), uN (Wd.hi 0#128), uN (Wd.lo 0#128), uN (Wd.hi 0#128), uN (Wd.lo 0#128), iW 0, iW 0, bF]
abbrev L63 (x0 : St) : List Value := [iI 2, iU 0, uN x0.a, uN x0.b, uN x0.c, uN x0.d, uN (Wd.hi 0#128), uN (Wd.lo 0#128), uN (Wd.hi 0#128), uN (Wd.lo 0#128), uN (Wd.hi 0#128), uN (Wd.lo 0#128), iW 0, iW 0, bF]
open Sx in
theorem galone2_c (gk : Int) (gm : BitVec 64) (gx : St) (ps pi hc : BitVec 128) (k0 k1 : BitVec 32) (hb : Bool) (w0 : World) : Calls Tryz.prog 193 #[.agg #[], (L58 gk gm gx ps pi hc k0 k1 hb)] w0 fun e w' => e = .returned (L62 gx) ∧ Below w0.heap.size w0 w' := by
 refine En Tryz.func193 Tryz.ntmps193 fun A F => ?_
 have H := Sx.Own.start w0
 refine Sp fun _ kk => Zb F (d_box F H rfl rfl [] rfl) fun g1 A w F H => ?_
 refine Zb F (d_box F H rfl rfl (L60 gk gm gx ps pi hc k0 k1 hb) rfl) fun g2 A w F H => ?_
 refine Zb F (d_alloc H rfl L6 zero_35) fun g3 A w F H => ?_
 refine Nl kk (Sp fun _ kk => ?_)
 iterate 2 (refine Av F ?_; intro A F)
 refine Zv F (d_build (qs := #[(0, iI 2), (2, (L9 gx))]) (v := (L62 gx)) F rfl rfl (by kernel_rfl)) fun A F => ?_
 refine Zs 0 (L63 gx) sz_35 F H fun A w F H => ?_
 refine Nl kk (wp_ret ?_)
 try dsimp only [Exit.then, Exit.inBlock, Exit.jump, Exit.noGoto]
 refine ret1 F Tryz.results193 (res_row (i := 0) (xs := [iI 2, iU 0, uN gx.a, uN gx.b, uN gx.c, uN gx.d, uN (Wd.hi 0#128), uN (Wd.lo 0#128), uN (Wd.hi 0#128), uN (Wd.lo 0#128), uN (Wd.hi 0#128), uN (Wd.lo 0#128), iW 0, iW 0, bF]) rw_35 F H rfl rfl rfl rfl) ⟨?_, H.below⟩
 rfl
open Sx in
theorem gright2_c (gk : Int) (gm : BitVec 64) (gx : St) (ps pi hc : BitVec 128) (k0 k1 : BitVec 32) (hb : Bool) (w0 : World) : Calls Tryz.prog 197 #[.agg #[], (L58 gk gm gx ps pi hc k0 k1 hb)] w0 fun e w' => e = .returned (.bool (Xj.right gx)) ∧ Below w0.heap.size w0 w' := by
 refine En Tryz.func197 Tryz.ntmps197 fun A F => ?_
 have H := Sx.Own.start w0
 refine Sp fun _ kk => Zb F (d_box F H rfl rfl [] rfl) fun g1 A w F H => ?_
 refine Zb F (d_box F H rfl rfl (L60 gk gm gx ps pi hc k0 k1 hb) rfl) fun g2 A w F H => ?_
 refine Av F fun A F => ?_
 refine Nl kk (Sp fun _ kk => ?_)
 iterate 2 (refine Av F ?_; intro A F)
 refine Zw F (Dc if_203 F H (xright_c gx _)) fun A w F H => ?_
 refine Av F fun A F => ?_
 refine Nl kk (wp_ret ?_)
 try dsimp only [Exit.then, Exit.inBlock, Exit.jump, Exit.noGoto]
 refine ret1 F Tryz.results197 (res_tmp F rfl) ⟨?_, H.below⟩
 rfl
abbrev L64 (x0 x1 : BitVec 128) : Value := .agg #[iI 3, iU 0, iU 0, iU 0, iU 0, iU 0, uH x0, uL x0, uH x1, uL x1, uN (Wd.hi 0#128), uN (Wd.lo 0#128), iW 0, iW 0, bF]
abbrev L65 (x0 x1 : BitVec 128) : List Value := [iI 3, iU 0, iU 0, iU 0, iU 0, iU 0, uH x0, uL x0, uH x1, uL x1, uN (Wd.hi 0#128), uN (Wd.lo 0#128), iW 0, iW 0, bF]
open Sx in
theorem galone3_c (gk : Int) (gm : BitVec 64) (gx : St) (ps pi hc : BitVec 128) (k0 k1 : BitVec 32) (hb : Bool) (w0 : World) : Calls Tryz.prog 240 #[.agg #[], (L58 gk gm gx ps pi hc k0 k1 hb)] w0 fun e w' => e = .returned (L64 ps pi) ∧ Below w0.heap.size w0 w' := by
 refine En Tryz.func240 Tryz.ntmps240 fun A F => ?_
 have H := Sx.Own.start w0
 refine Sp fun _ kk => Zb F (d_box F H rfl rfl [] rfl) fun g1 A w F H => ?_
 refine Zb F (d_box F H rfl rfl (L60 gk gm gx ps pi hc k0 k1 hb) rfl) fun g2 A w F H => ?_
 refine Zb F (d_alloc H rfl L6 zero_35) fun g3 A w F H => ?_
 refine Nl kk (Sp fun _ kk => ?_)
 iterate 2 (refine Av F ?_; intro A F)
 refine Zv F (d_build (qs := #[(0, iI 3), (3, (L30 ps pi))]) (v := (L64 ps pi)) F rfl rfl (by kernel_rfl)) fun A F => ?_
 refine Zs 0 (L65 ps pi) sz_35 F H fun A w F H => ?_
 refine Nl kk (wp_ret ?_)
 try dsimp only [Exit.then, Exit.inBlock, Exit.jump, Exit.noGoto]
 refine ret1 F Tryz.results240 (res_row (i := 0) (xs := [iI 3, iU 0, iU 0, iU 0, iU 0, iU 0, uH ps, uL ps, uH pi, uL pi, uN (Wd.hi 0#128), uN (Wd.lo 0#128), iW 0, iW 0, bF]) rw_35 F H rfl rfl rfl rfl) ⟨?_, H.below⟩
 rfl
open Sx in
theorem gright3_c (gk : Int) (gm : BitVec 64) (gx : St) (ps pi hc : BitVec 128) (k0 k1 : BitVec 32) (hb : Bool) (w0 : World) : Calls Tryz.prog 244 #[.agg #[], (L58 gk gm gx ps pi hc k0 k1 hb)] w0 fun e w' => e = .returned (.bool (Af.odd pi)) ∧ Below w0.heap.size w0 w' := by
 refine En Tryz.func244 Tryz.ntmps244 fun A F => ?_
 have H := Sx.Own.start w0
 refine Sp fun _ kk => Zb F (d_box F H rfl rfl [] rfl) fun g1 A w F H => ?_
 refine Zb F (d_box F H rfl rfl (L60 gk gm gx ps pi hc k0 k1 hb) rfl) fun g2 A w F H => ?_
 refine Av F fun A F => ?_
 refine Nl kk (Sp fun _ kk => ?_)
 iterate 2 (refine Av F ?_; intro A F)
 refine Zw F (Dc if_250 F H (pright_c ps pi _)) fun A w F H => ?_
 refine Av F fun A F => ?_
 refine Nl kk (wp_ret ?_)
 try dsimp only [Exit.then, Exit.inBlock, Exit.jump, Exit.noGoto]
 refine ret1 F Tryz.results244 (res_tmp F rfl) ⟨?_, H.below⟩
 rfl
abbrev L66 (x0 : BitVec 128) (x1 x2 : BitVec 32) (x3 : Bool) : Value := .agg #[iI 4, iU 0, iU 0, iU 0, iU 0, iU 0, uN (Wd.hi 0#128), uN (Wd.lo 0#128), uN (Wd.hi 0#128), uN (Wd.lo 0#128), uH x0, uL x0, iW x1.toNat, iW x2.toNat, .bool x3]
abbrev L67 (x0 : BitVec 128) (x1 x2 : BitVec 32) (x3 : Bool) : List Value := [iI 4, iU 0, iU 0, iU 0, iU 0, iU 0, uN (Wd.hi 0#128), uN (Wd.lo 0#128), uN (Wd.hi 0#128), uN (Wd.lo 0#128), uH x0, uL x0, iW x1.toNat, iW x2.toNat, .bool x3]
open Sx in
theorem galone4_c (gk : Int) (gm : BitVec 64) (gx : St) (ps pi hc : BitVec 128) (k0 k1 : BitVec 32) (hb : Bool) (w0 : World) : Calls Tryz.prog 258 #[.agg #[], (L58 gk gm gx ps pi hc k0 k1 hb)] w0 fun e w' => e = .returned (L66 hc k0 k1 hb) ∧ Below w0.heap.size w0 w' := by
 refine En Tryz.func258 Tryz.ntmps258 fun A F => ?_
 have H := Sx.Own.start w0
 refine Sp fun _ kk => Zb F (d_box F H rfl rfl [] rfl) fun g1 A w F H => ?_
 refine Zb F (d_box F H rfl rfl (L60 gk gm gx ps pi hc k0 k1 hb) rfl) fun g2 A w F H => ?_
 refine Zb F (d_alloc H rfl L6 zero_35) fun g3 A w F H => ?_
 refine Nl kk (Sp fun _ kk => ?_)
 iterate 2 (refine Av F ?_; intro A F)
 refine Zv F (d_build (qs := #[(0, iI 4), (4, (L52 hc k0 k1 hb))]) (v := (L66 hc k0 k1 hb)) F rfl rfl (by kernel_rfl)) fun A F => ?_
 refine Zs 0 (L67 hc k0 k1 hb) sz_35 F H fun A w F H => ?_
 refine Nl kk (wp_ret ?_)
 try dsimp only [Exit.then, Exit.inBlock, Exit.jump, Exit.noGoto]
 refine ret1 F Tryz.results258 (res_row (i := 0) (xs := [iI 4, iU 0, iU 0, iU 0, iU 0, iU 0, uN (Wd.hi 0#128), uN (Wd.lo 0#128), uN (Wd.hi 0#128), uN (Wd.lo 0#128), uH hc, uL hc, iW k0.toNat, iW k1.toNat, .bool hb]) rw_35 F H rfl rfl rfl rfl) ⟨?_, H.below⟩
 rfl
open Sx in
theorem gright4_c (gk : Int) (gm : BitVec 64) (gx : St) (ps pi hc : BitVec 128) (k0 k1 : BitVec 32) (hb : Bool) (w0 : World) : Calls Tryz.prog 262 #[.agg #[], (L58 gk gm gx ps pi hc k0 k1 hb)] w0 fun e w' => e = .returned (bT) ∧ Below w0.heap.size w0 w' := by
 refine En Tryz.func262 Tryz.ntmps262 fun A F => ?_
 have H := Sx.Own.start w0
 refine Sp fun _ kk => Zb F (d_box F H rfl rfl [] rfl) fun g1 A w F H => ?_
 refine Zb F (d_box F H rfl rfl (L60 gk gm gx ps pi hc k0 k1 hb) rfl) fun g2 A w F H => ?_
 refine Av F fun A F => ?_
 refine Nl kk (Sp fun _ kk => Av F fun A F => ?_)
 refine Nl kk (wp_ret ?_)
 try dsimp only [Exit.then, Exit.inBlock, Exit.jump, Exit.noGoto]
 refine ret1 F Tryz.results262 (res_tmp F rfl) ⟨?_, H.below⟩
 rfl
abbrev L68 (x0 : BitVec 64) (x1 : BitVec 128) : Value := .agg #[iI 1, uN (Mx.jump x0 (Wd.lo x1)), iU 0, iU 0, iU 0, iU 0, uN (Wd.hi 0#128), uN (Wd.lo 0#128), uN (Wd.hi 0#128), uN (Wd.lo 0#128), uN (Wd.hi 0#128), uN (Wd.lo 0#128), iW 0, iW 0, bF]
abbrev L69 (x0 : BitVec 64) (x1 : BitVec 128) : List Value := [iI 1, uN (Mx.jump x0 (Wd.lo x1)), iU 0, iU 0, iU 0, iU 0, uN (Wd.hi 0#128), uN (Wd.lo 0#128), uN (Wd.hi 0#128), uN (Wd.lo 0#128), uN (Wd.hi 0#128), uN (Wd.lo 0#128), iW 0, iW 0, bF]
open Sx in
theorem gjump1_c (gk : Int) (gm : BitVec 64) (gx : St) (ps pi hc : BitVec 128) (k0 k1 : BitVec 32) (hb : Bool) (n : BitVec 128) (w0 : World) : Calls Tryz.prog 183 #[.agg #[], (L58 gk gm gx ps pi hc k0 k1 hb), .agg #[uH n, uL n]] w0 fun e w' => e = .returned (L68 gm n) ∧ Below w0.heap.size w0 w' := by
 refine En Tryz.func183 Tryz.ntmps183 fun A F => ?_
 have H := Sx.Own.start w0
 refine Sp fun _ kk => Zb F (d_box F H rfl rfl [] rfl) fun g1 A w F H => ?_
 refine Zb F (d_box F H rfl rfl (L60 gk gm gx ps pi hc k0 k1 hb) rfl) fun g2 A w F H => ?_
 refine Zb F (d_box F H rfl rfl [uH n, uL n] rfl) fun g3 A w F H => ?_
 refine Zb F (d_alloc H rfl L6 zero_35) fun g4 A w F H => ?_
 refine Nl kk (Sp fun _ kk => ?_)
 iterate 3 (refine Av F ?_; intro A F)
 refine Zw F (Dc if_190 F H (mjump_c gm n _)) fun A w F H => ?_
 refine Zv F (d_build (qs := #[(0, iI 1), (1, uN (Mx.jump gm (Wd.lo n)))]) (v := (L68 gm n)) F rfl rfl (by kernel_rfl)) fun A F => ?_
 refine Zs 0 (L69 gm n) sz_35 F H fun A w F H => ?_
 refine Nl kk (wp_ret ?_)
 try dsimp only [Exit.then, Exit.inBlock, Exit.jump, Exit.noGoto]
 refine ret1 F Tryz.results183 (res_row (i := 0) (xs := [iI 1, uN (Mx.jump gm (Wd.lo n)), iU 0, iU 0, iU 0, iU 0, uN (Wd.hi 0#128), uN (Wd.lo 0#128), uN (Wd.hi 0#128), uN (Wd.lo 0#128), uN (Wd.hi 0#128), uN (Wd.lo 0#128), iW 0, iW 0, bF]) rw_35 F H rfl rfl rfl rfl) ⟨?_, H.below⟩
 rfl
abbrev L70 (x0 : BitVec 128) (x1 : St) : Value := .agg #[iI 2, iU 0, iU ((Xo.it x0.toNat x1).a.toNat), iU ((Xo.it x0.toNat x1).b.toNat), iU ((Xo.it x0.toNat x1).c.toNat), iU ((Xo.it x0.toNat x1).d.toNat), uN (Wd.hi 0#128), uN (Wd.lo 0#128), uN (Wd.hi 0#128), uN (Wd.lo 0#128), uN (Wd.hi 0#128), uN (Wd.lo 0#128), iW 0, iW 0, bF]
abbrev L71 (x0 : BitVec 128) (x1 : St) : List Value := [iU ((Xo.it x0.toNat x1).a.toNat), iU ((Xo.it x0.toNat x1).b.toNat), iU ((Xo.it x0.toNat x1).c.toNat), iU ((Xo.it x0.toNat x1).d.toNat)]
abbrev L72 (x0 : BitVec 128) (x1 : St) : List Value := [iI 2, iU 0, iU ((Xo.it x0.toNat x1).a.toNat), iU ((Xo.it x0.toNat x1).b.toNat), iU ((Xo.it x0.toNat x1).c.toNat), iU ((Xo.it x0.toNat x1).d.toNat), uN (Wd.hi 0#128), uN (Wd.lo 0#128), uN (Wd.hi 0#128), uN (Wd.lo 0#128), uN (Wd.hi 0#128), uN (Wd.lo 0#128), iW 0, iW 0, bF]
open Sx in
theorem gjump2_c (gk : Int) (gm : BitVec 64) (gx : St) (ps pi hc : BitVec 128) (k0 k1 : BitVec 32) (hb : Bool) (n : BitVec 128) (hr : Xj.right gx = true) (w0 : World) : Calls Tryz.prog 195 #[.agg #[], (L58 gk gm gx ps pi hc k0 k1 hb), .agg #[uH n, uL n]] w0 fun e w' => e = .returned (L70 n gx) ∧ Below w0.heap.size w0 w' := by
 refine En Tryz.func195 Tryz.ntmps195 fun A F => ?_
 have H := Sx.Own.start w0
 refine Sp fun _ kk => Zb F (d_box F H rfl rfl [] rfl) fun g1 A w F H => ?_
 refine Zb F (d_box F H rfl rfl (L60 gk gm gx ps pi hc k0 k1 hb) rfl) fun g2 A w F H => ?_
 refine Zb F (d_box F H rfl rfl [uH n, uL n] rfl) fun g3 A w F H => ?_
 refine Zb F (d_alloc H rfl L6 zero_35) fun g4 A w F H => ?_
 refine Nl kk (Sp fun _ kk => ?_)
 iterate 3 (refine Av F ?_; intro A F)
 refine Zw F (Dc if_202 F H (xjump_c gx n (hr) _)) fun A w F H => ?_
 iterate 3 (refine Av F ?_; intro A F)
 refine Zb F (d_alloc H rfl [iU 0, iU 0, iU 0, iU 0] zero_24) fun g5 A w F H => ?_
 refine Zs 0 (L71 n gx) sz_24 F H fun A w F H => ?_
 refine Av F fun A F => ?_
 refine Nl kk (Sp fun _ kk => Av F fun A F => ?_)
 refine Zv F (d_build (qs := #[(0, iI 2), (2, (L15 n gx))]) (v := (L70 n gx)) F rfl rfl (by kernel_rfl)) fun A F => ?_
 refine Zs 1 (L72 n gx) sz_35 F H fun A w F H => ?_
 refine Nl kk (wp_ret ?_)
 try dsimp only [Exit.then, Exit.inBlock, Exit.jump, Exit.noGoto]
 refine ret1 F Tryz.results195 (res_row (i := 1) (xs := [iI 2, iU 0, iU ((Xo.it n.toNat gx).a.toNat), iU ((Xo.it n.toNat gx).b.toNat), iU ((Xo.it n.toNat gx).c.toNat), iU ((Xo.it n.toNat gx).d.toNat), uN (Wd.hi 0#128), uN (Wd.lo 0#128), uN (Wd.hi 0#128), uN (Wd.lo 0#128), uN (Wd.hi 0#128), uN (Wd.lo 0#128), iW 0, iW 0, bF]) rw_35 F H rfl rfl rfl rfl) ⟨?_, H.below⟩
 rfl
abbrev L73 (x0 x1 x2 : BitVec 128) : Value := .agg #[iI 3, iU 0, iU 0, iU 0, iU 0, iU 0, uH ((Pc.jump ⟨x0, x1⟩ x2).s), uL ((Pc.jump ⟨x0, x1⟩ x2).s), uH x1, uL x1, uN (Wd.hi 0#128), uN (Wd.lo 0#128), iW 0, iW 0, bF]
abbrev L74 (x0 x1 x2 : BitVec 128) : List Value := [iI 3, iU 0, iU 0, iU 0, iU 0, iU 0, uH ((Pc.jump ⟨x0, x1⟩ x2).s), uL ((Pc.jump ⟨x0, x1⟩ x2).s), uH x1, uL x1, uN (Wd.hi 0#128), uN (Wd.lo 0#128), iW 0, iW 0, bF]
open Sx in
theorem gjump3_c (gk : Int) (gm : BitVec 64) (gx : St) (ps pi hc : BitVec 128) (k0 k1 : BitVec 32) (hb : Bool) (n : BitVec 128) (hr : Af.odd pi = true) (w0 : World) : Calls Tryz.prog 242 #[.agg #[], (L58 gk gm gx ps pi hc k0 k1 hb), .agg #[uH n, uL n]] w0 fun e w' => e = .returned (L73 ps pi n) ∧ Below w0.heap.size w0 w' := by
 refine En Tryz.func242 Tryz.ntmps242 fun A F => ?_
 have H := Sx.Own.start w0
 refine Sp fun _ kk => Zb F (d_box F H rfl rfl [] rfl) fun g1 A w F H => ?_
 refine Zb F (d_box F H rfl rfl (L60 gk gm gx ps pi hc k0 k1 hb) rfl) fun g2 A w F H => ?_
 refine Zb F (d_box F H rfl rfl [uH n, uL n] rfl) fun g3 A w F H => ?_
 refine Zb F (d_alloc H rfl L6 zero_35) fun g4 A w F H => ?_
 refine Nl kk (Sp fun _ kk => ?_)
 iterate 3 (refine Av F ?_; intro A F)
 refine Zw F (Dc if_249 F H (pjump_ok ps pi n (hr) _)) fun A w F H => ?_
 iterate 3 (refine Av F ?_; intro A F)
 refine Zb F (d_alloc H rfl L3 zero_28) fun g5 A w F H => ?_
 refine Zs 0 [uH ((Pc.jump ⟨ps, pi⟩ n).s), uL ((Pc.jump ⟨ps, pi⟩ n).s), uH pi, uL pi] sz_28 F H fun A w F H => ?_
 refine Av F fun A F => ?_
 refine Nl kk (Sp fun _ kk => Av F fun A F => ?_)
 refine Zv F (d_build (qs := #[(0, iI 3), (3, (L45 ps pi n))]) (v := (L73 ps pi n)) F rfl rfl (by kernel_rfl)) fun A F => ?_
 refine Zs 1 (L74 ps pi n) sz_35 F H fun A w F H => ?_
 refine Nl kk (wp_ret ?_)
 try dsimp only [Exit.then, Exit.inBlock, Exit.jump, Exit.noGoto]
 refine ret1 F Tryz.results242 (res_row (i := 1) (xs := [iI 3, iU 0, iU 0, iU 0, iU 0, iU 0, uH ((Pc.jump ⟨ps, pi⟩ n).s), uL ((Pc.jump ⟨ps, pi⟩ n).s), uH pi, uL pi, uN (Wd.hi 0#128), uN (Wd.lo 0#128), iW 0, iW 0, bF]) rw_35 F H rfl rfl rfl rfl) ⟨?_, H.below⟩
 rfl
abbrev L75 (x0 : BitVec 128) (x1 x2 : BitVec 32) (x3 : Bool) (x4 : BitVec 128) : Value := .agg #[iI 4, iU 0, iU 0, iU 0, iU 0, iU 0, uN (Wd.hi 0#128), uN (Wd.lo 0#128), uN (Wd.hi 0#128), uN (Wd.lo 0#128), uH ((Hf.jump ⟨x0, x1, x2, x3⟩ x4).c), uL ((Hf.jump ⟨x0, x1, x2, x3⟩ x4).c), iW (((Hf.jump ⟨x0, x1, x2, x3⟩ x4).k0).toNat), iW (((Hf.jump ⟨x0, x1, x2, x3⟩ x4).k1).toNat), .bool ((Hf.jump ⟨x0, x1, x2, x3⟩ x4).b)]
abbrev L76 (x0 : BitVec 128) (x1 x2 : BitVec 32) (x3 : Bool) (x4 : BitVec 128) : Value := .agg #[uH ((Hf.jump ⟨x0, x1, x2, x3⟩ x4).c), uL ((Hf.jump ⟨x0, x1, x2, x3⟩ x4).c), iW (((Hf.jump ⟨x0, x1, x2, x3⟩ x4).k0).toNat), iW (((Hf.jump ⟨x0, x1, x2, x3⟩ x4).k1).toNat), .bool ((Hf.jump ⟨x0, x1, x2, x3⟩ x4).b)]
abbrev L77 (x0 : BitVec 128) (x1 x2 : BitVec 32) (x3 : Bool) (x4 : BitVec 128) : List Value := [iI 4, iU 0, iU 0, iU 0, iU 0, iU 0, uN (Wd.hi 0#128), uN (Wd.lo 0#128), uN (Wd.hi 0#128), uN (Wd.lo 0#128), uH ((Hf.jump ⟨x0, x1, x2, x3⟩ x4).c), uL ((Hf.jump ⟨x0, x1, x2, x3⟩ x4).c), iW (((Hf.jump ⟨x0, x1, x2, x3⟩ x4).k0).toNat), iW (((Hf.jump ⟨x0, x1, x2, x3⟩ x4).k1).toNat), .bool ((Hf.jump ⟨x0, x1, x2, x3⟩ x4).b)]
open Sx in
theorem gjump4_c (gk : Int) (gm : BitVec 64) (gx : St) (ps pi hc : BitVec 128) (k0 k1 : BitVec 32) (hb : Bool) (n : BitVec 128) (w0 : World) : Calls Tryz.prog 260 #[.agg #[], (L58 gk gm gx ps pi hc k0 k1 hb), .agg #[uH n, uL n]] w0 fun e w' => e = .returned (L75 hc k0 k1 hb n) ∧ Below w0.heap.size w0 w' := by
 refine En Tryz.func260 Tryz.ntmps260 fun A F => ?_
 have H := Sx.Own.start w0
 refine Sp fun _ kk => Zb F (d_box F H rfl rfl [] rfl) fun g1 A w F H => ?_
 refine Zb F (d_box F H rfl rfl (L60 gk gm gx ps pi hc k0 k1 hb) rfl) fun g2 A w F H => ?_
 refine Zb F (d_box F H rfl rfl [uH n, uL n] rfl) fun g3 A w F H => ?_
 refine Zb F (d_alloc H rfl L6 zero_35) fun g4 A w F H => ?_
 refine Nl kk (Sp fun _ kk => ?_)
 iterate 3 (refine Av F ?_; intro A F)
 refine Zw F (Dc if_267 F H (hjump_c hc k0 k1 hb n _)) fun A w F H => ?_
 refine Zv F (d_build (qs := #[(0, iI 4), (4, (L76 hc k0 k1 hb n))]) (v := (L75 hc k0 k1 hb n)) F rfl rfl (by kernel_rfl)) fun A F => ?_
 refine Zs 0 (L77 hc k0 k1 hb n) sz_35 F H fun A w F H => ?_
 refine Nl kk (wp_ret ?_)
 try dsimp only [Exit.then, Exit.inBlock, Exit.jump, Exit.noGoto]
 refine ret1 F Tryz.results260 (res_row (i := 0) (xs := [iI 4, iU 0, iU 0, iU 0, iU 0, iU 0, uN (Wd.hi 0#128), uN (Wd.lo 0#128), uN (Wd.hi 0#128), uN (Wd.lo 0#128), uH ((Hf.jump ⟨hc, k0, k1, hb⟩ n).c), uL ((Hf.jump ⟨hc, k0, k1, hb⟩ n).c), iW (((Hf.jump ⟨hc, k0, k1, hb⟩ n).k0).toNat), iW (((Hf.jump ⟨hc, k0, k1, hb⟩ n).k1).toNat), .bool ((Hf.jump ⟨hc, k0, k1, hb⟩ n).b)]) rw_35 F H rfl rfl rfl rfl) ⟨?_, H.below⟩
 rfl
open Sx in
theorem gword1_c (gk : Int) (gm : BitVec 64) (gx : St) (ps pi hc : BitVec 128) (k0 k1 : BitVec 32) (hb : Bool) (w0 : World) : Calls Tryz.prog 189 #[.agg #[], (L58 gk gm gx ps pi hc k0 k1 hb)] w0 fun e w' => e = .returned (uN (Mx.word gm)) ∧ Below w0.heap.size w0 w' := by
 refine En Tryz.func189 Tryz.ntmps189 fun A F => ?_
 have H := Sx.Own.start w0
 refine Sp fun _ kk => Zb F (d_box F H rfl rfl [] rfl) fun g1 A w F H => ?_
 refine Zb F (d_box F H rfl rfl (L60 gk gm gx ps pi hc k0 k1 hb) rfl) fun g2 A w F H => ?_
 refine Av F fun A F => ?_
 refine Nl kk (Sp fun _ kk => ?_)
 iterate 2 (refine Av F ?_; intro A F)
 refine Zw F (Dc if_149 F H (mword_c gm _)) fun A w F H => ?_
 refine Av F fun A F => ?_
 refine Nl kk (wp_ret ?_)
 try dsimp only [Exit.then, Exit.inBlock, Exit.jump, Exit.noGoto]
 refine ret1 F Tryz.results189 (res_tmp F rfl) ⟨?_, H.below⟩
 rfl
abbrev L78 (x0 : BitVec 64) : Value := .agg #[iI 1, uN (Mx.step x0), iU 0, iU 0, iU 0, iU 0, uN (Wd.hi 0#128), uN (Wd.lo 0#128), uN (Wd.hi 0#128), uN (Wd.lo 0#128), uN (Wd.hi 0#128), uN (Wd.lo 0#128), iW 0, iW 0, bF]
open Sx in
theorem gstep1_c (gk : Int) (gm : BitVec 64) (gx : St) (ps pi hc : BitVec 128) (k0 k1 : BitVec 32) (hb : Bool) (w0 : World) : Calls Tryz.prog 187 #[.agg #[], (L58 gk gm gx ps pi hc k0 k1 hb)] w0 fun e w' => e = .returned (L78 gm) ∧ Below w0.heap.size w0 w' := by
 refine En Tryz.func187 Tryz.ntmps187 fun A F => ?_
 have H := Sx.Own.start w0
 refine Sp fun _ kk => Zb F (d_box F H rfl rfl [] rfl) fun g1 A w F H => ?_
 refine Zb F (d_box F H rfl rfl (L60 gk gm gx ps pi hc k0 k1 hb) rfl) fun g2 A w F H => ?_
 refine Zb F (d_alloc H rfl L6 zero_35) fun g3 A w F H => ?_
 refine Nl kk (Sp fun _ kk => ?_)
 iterate 2 (refine Av F ?_; intro A F)
 refine Zv F (d_callq (vs := [uN gm]) (v := uN (Mx.step gm)) if_150 F rfl rfl (mstep_c gm _)) fun A F => ?_
 refine Zv F (d_build (qs := #[(0, iI 1), (1, uN (Mx.step gm))]) (v := (L78 gm)) F rfl rfl (by kernel_rfl)) fun A F => ?_
 refine Zs 0 [iI 1, uN (Mx.step gm), iU 0, iU 0, iU 0, iU 0, uN (Wd.hi 0#128), uN (Wd.lo 0#128), uN (Wd.hi 0#128), uN (Wd.lo 0#128), uN (Wd.hi 0#128), uN (Wd.lo 0#128), iW 0, iW 0, bF] sz_35 F H fun A w F H => ?_
 refine Nl kk (wp_ret ?_)
 try dsimp only [Exit.then, Exit.inBlock, Exit.jump, Exit.noGoto]
 refine ret1 F Tryz.results187 (res_row (i := 0) (xs := [iI 1, uN (Mx.step gm), iU 0, iU 0, iU 0, iU 0, uN (Wd.hi 0#128), uN (Wd.lo 0#128), uN (Wd.hi 0#128), uN (Wd.lo 0#128), uN (Wd.hi 0#128), uN (Wd.lo 0#128), iW 0, iW 0, bF]) rw_35 F H rfl rfl rfl rfl) ⟨?_, H.below⟩
 rfl
abbrev L79 (x0 : BitVec 64) : List Value := [.agg #[iI 1, uN x0, iU 0, iU 0, iU 0, iU 0, uN (Wd.hi 0#128), uN (Wd.lo 0#128), uN (Wd.hi 0#128), uN (Wd.lo 0#128), uN (Wd.hi 0#128), uN (Wd.lo 0#128), iW 0, iW 0, bF]]
open Sx in
theorem gcheck1_ok (gm : BitVec 64) (w0 : World) : Calls Tryz.prog 7 #[(L59 gm)] w0 fun e w' => e = .returned (iI 0) ∧ Below w0.heap.size w0 w' := by
 refine En Tryz.func7 Tryz.ntmps7 fun A F => ?_
 have H := Sx.Own.start w0
 refine Sp fun _ kk => Zb F (d_box F H rfl rfl (L61 gm) rfl) fun g1 A w F H => ?_
 refine Av F fun A F => ?_
 refine Nl kk (Sp fun _ kk => ?_)
 iterate 2 (refine Av F ?_; intro A F)
 refine Zw F (Dc if_26 F H (gof1_c _)) fun A w F H => ?_
 refine Av F fun A F => ?_
 refine Nl kk (Sx.seq fun K3 hK3 => wp_block (Sp fun _ kk => Av F fun A F => ?_))
 refine Zn bF F fun A F => ?_
 refine Av F fun A F => ?_
 refine Nl kk (condF F rfl (Sx.seq fun K5 hK5 => ?_))
 have F := F.tq [(1, pT g1 0), (2, iI 0), (3, .iface 131 (.agg #[]))] rfl
 refine Dn F [some (.iface 131 (.agg #[])), some (L59 gm), some (bT), some (bF), some (bF), some (.iface 131 (.agg #[])), some (L59 gm), some (L59 gm), some (L59 gm), some (bF), some (bF), some (bF)] (fun L A w => Sx.Own w0 w [(true, g1, (L61 gm))] []) H.drew ?_ ?_
 ·refine ⟨?_, ?_, ?_, ?_, ?_, ?_, ?_, ?_, ?_, ?_, ?_, ?_, trivial⟩
  ·exact Sa
  ·exact SV (fun _ _ _ F H => Lr 0 (L61 gm) rw_35 F H)
  ·intro L A w up hun hd F H
   refine step_on rfl (d_callI (vs := (L79 gm)) (v := bT) im_185 F H rfl rfl rfl (gright1_c 1 gm Xo.zero 0#128 0#128 0#128 0#32 0#32 false _)) ?_
   rintro xv w' ⟨hx, H⟩
   exact ⟨Cs hx, H⟩
  ·exact SV (fun _ _ _ F _ => d_un (v := bF) F rfl rfl rfl)
  ·exact Sa
  ·exact SVg (fun _ _ _ F _ => d_move F (Or.inl rfl) rfl)
  ·exact SVg (fun _ _ _ F H => Lr 0 (L61 gm) rw_35 F H)
  ·intro L A w up hun hd F H
   refine step_ong rfl (guard_known (d := 15) (b := false) F rfl rfl) rfl (d_callI (vs := (L79 gm)) (v := (L59 gm)) im_181 F H rfl rfl rfl (galone1_c 1 gm Xo.zero 0#128 0#128 0#128 0#32 0#32 false _)) ?_
   rintro xv w' ⟨hx, H⟩
   exact ⟨Cs hx, H⟩
  ·exact SVg (fun _ _ _ F H => Lr 0 (L61 gm) rw_35 F H)
  ·exact SVg (fun _ _ _ F _ => Bn bF F rfl rfl rfl (i_neS (u := (⟨1, gm, Xo.zero, 0#128, 0#128, 0#128, 0#32, 0#32, false⟩ : Gs)) (v := (⟨1, gm, Xo.zero, 0#128, 0#128, 0#128, 0#32, 0#32, false⟩ : Gs)) (by rw [show Sx.eqbS (⟨1, gm, Xo.zero, 0#128, 0#128, 0#128, 0#32, 0#32, false⟩ : Gs) (⟨1, gm, Xo.zero, 0#128, 0#128, 0#128, 0#32, 0#32, false⟩ : Gs) = true from Sx.eqbS_self] <;> rfl)))
  ·exact Sa
  ·exact Sa
 ·intro L A w hL F H
  have F := F.tq [(2, iI 0), (10, bF)] rfl
  refine hK5 _ _ (condF F rfl (wp_skip (hK3 _ _ (Sp fun _ kk => Av F fun A F => ?_))))
  refine Nl kk (wp_ret ?_)
  try dsimp only [Exit.then, Exit.inBlock, Exit.jump, Exit.noGoto]
  refine ret1 F Tryz.results7 (res_tmp F rfl) ⟨?_, H.below⟩
  rfl
abbrev L80 (x0 : BitVec 64) (x1 : St) (x2 x3 x4 : BitVec 128) (x5 x6 : BitVec 32) (x7 : Bool) : Value := .agg #[iI 1, uN x0, uN x1.a, uN x1.b, uN x1.c, uN x1.d, uH x2, uL x2, uH x3, uL x3, uH x4, uL x4, iW x5.toNat, iW x6.toNat, .bool x7]
abbrev L81 (x0 : BitVec 64) (x1 : St) (x2 x3 x4 : BitVec 128) (x5 x6 : BitVec 32) (x7 : Bool) : List Value := [iI 1, uN x0, uN x1.a, uN x1.b, uN x1.c, uN x1.d, uH x2, uL x2, uH x3, uL x3, uH x4, uL x4, iW x5.toNat, iW x6.toNat, .bool x7]
open Sx in
theorem gcheck1_not (gm : BitVec 64) (gx : St) (ps pi hc : BitVec 128) (k0 k1 : BitVec 32) (hb : Bool) (he : Sx.eqbS (⟨1, gm, Xo.zero, 0#128, 0#128, 0#128, 0#32, 0#32, false⟩ : Gs) (⟨1, gm, gx, ps, pi, hc, k0, k1, hb⟩ : Gs) = false) (w0 : World) : Calls Tryz.prog 7 #[(L80 gm gx ps pi hc k0 k1 hb)] w0 fun e w' => e = .returned (iI 3) ∧ Below w0.heap.size w0 w' := by
 refine En Tryz.func7 Tryz.ntmps7 fun A F => ?_
 have H := Sx.Own.start w0
 refine Sp fun _ kk => Zb F (d_box F H rfl rfl (L81 gm gx ps pi hc k0 k1 hb) rfl) fun g1 A w F H => ?_
 refine Av F fun A F => ?_
 refine Nl kk (Sp fun _ kk => ?_)
 iterate 2 (refine Av F ?_; intro A F)
 refine Zw F (Dc if_26 F H (gof1_c _)) fun A w F H => ?_
 refine Av F fun A F => ?_
 refine Nl kk (Sx.seq fun K3 hK3 => wp_block (Sp fun _ kk => Av F fun A F => ?_))
 refine Zn bF F fun A F => ?_
 refine Av F fun A F => ?_
 refine Nl kk (condF F rfl (Sx.seq fun K5 hK5 => ?_))
 have F := F.tq [(1, pT g1 0), (2, iI 0), (3, .iface 131 (.agg #[]))] rfl
 refine Dn F [some (.iface 131 (.agg #[])), some (L80 gm gx ps pi hc k0 k1 hb), some (bT), some (bF), some (bF), some (.iface 131 (.agg #[])), some (L80 gm gx ps pi hc k0 k1 hb), some (L59 gm), some (L80 gm gx ps pi hc k0 k1 hb), some (bT), some (bT), some (bT)] (fun L A w => Sx.Own w0 w [(true, g1, (L81 gm gx ps pi hc k0 k1 hb))] []) H.drew ?_ ?_
 ·refine ⟨?_, ?_, ?_, ?_, ?_, ?_, ?_, ?_, ?_, ?_, ?_, ?_, trivial⟩
  ·exact Sa
  ·exact SV (fun _ _ _ F H => Lr 0 (L81 gm gx ps pi hc k0 k1 hb) rw_35 F H)
  ·intro L A w up hun hd F H
   refine step_on rfl (d_callI (vs := [(L80 gm gx ps pi hc k0 k1 hb)]) (v := bT) im_185 F H rfl rfl rfl (gright1_c 1 gm gx ps pi hc k0 k1 hb _)) ?_
   rintro xv w' ⟨hx, H⟩
   exact ⟨Cs hx, H⟩
  ·exact SV (fun _ _ _ F _ => d_un (v := bF) F rfl rfl rfl)
  ·exact Sa
  ·exact SVg (fun _ _ _ F _ => d_move F (Or.inl rfl) rfl)
  ·exact SVg (fun _ _ _ F H => Lr 0 (L81 gm gx ps pi hc k0 k1 hb) rw_35 F H)
  ·intro L A w up hun hd F H
   refine step_ong rfl (guard_known (d := 15) (b := false) F rfl rfl) rfl (d_callI (vs := [(L80 gm gx ps pi hc k0 k1 hb)]) (v := (L59 gm)) im_181 F H rfl rfl rfl (galone1_c 1 gm gx ps pi hc k0 k1 hb _)) ?_
   rintro xv w' ⟨hx, H⟩
   exact ⟨Cs hx, H⟩
  ·exact SVg (fun _ _ _ F H => Lr 0 (L81 gm gx ps pi hc k0 k1 hb) rw_35 F H)
  ·exact SVg (fun _ _ _ F _ => Bn bT F rfl rfl rfl (i_neS (u := (⟨1, gm, Xo.zero, 0#128, 0#128, 0#128, 0#32, 0#32, false⟩ : Gs)) (v := (⟨1, gm, gx, ps, pi, hc, k0, k1, hb⟩ : Gs)) (by rw [show Sx.eqbS (⟨1, gm, Xo.zero, 0#128, 0#128, 0#128, 0#32, 0#32, false⟩ : Gs) (⟨1, gm, gx, ps, pi, hc, k0, k1, hb⟩ : Gs) = false from he] <;> rfl)))
  ·exact Sa
  ·exact Sa
 ·intro L A w hL F H
  have F := F.tq [(2, iI 0), (10, bT)] rfl
  refine hK5 _ _ (condT F rfl (Sp fun _ kk => Av F fun A F => ?_))
  refine Nl kk (wp_ret ?_)
  try dsimp only [Exit.then, Exit.inBlock, Exit.jump, Exit.noGoto]
  refine ret1 F Tryz.results7 (res_tmp F rfl) ⟨?_, H.below⟩
  rfl
abbrev L82 (x0 : Nat) : List (Nat × Value) := [(1, pT x0 0), (2, iI 0), (3, .iface 132 (.agg #[]))]
abbrev L83 (x0 : St) : List Value := [.agg #[iI 2, iU 0, uN x0.a, uN x0.b, uN x0.c, uN x0.d, uN (Wd.hi 0#128), uN (Wd.lo 0#128), uN (Wd.hi 0#128), uN (Wd.lo 0#128), uN (Wd.hi 0#128), uN (Wd.lo 0#128), iW 0, iW 0, bF]]
open Sx in
theorem gcheck2_ok (gx : St) (hr : Xj.right gx = true) (w0 : World) : Calls Tryz.prog 7 #[(L62 gx)] w0 fun e w' => e = .returned (iI 0) ∧ Below w0.heap.size w0 w' := by
 refine En Tryz.func7 Tryz.ntmps7 fun A F => ?_
 have H := Sx.Own.start w0
 refine Sp fun _ kk => Zb F (d_box F H rfl rfl (L63 gx) rfl) fun g1 A w F H => ?_
 refine Av F fun A F => ?_
 refine Nl kk (Sp fun _ kk => ?_)
 iterate 2 (refine Av F ?_; intro A F)
 refine Zw F (Dc if_26 F H (gof2_c _)) fun A w F H => ?_
 refine Av F fun A F => ?_
 refine Nl kk (Sx.seq fun K3 hK3 => wp_block (Sp fun _ kk => Av F fun A F => ?_))
 refine Zn bF F fun A F => ?_
 refine Av F fun A F => ?_
 refine Nl kk (condF F rfl (Sx.seq fun K5 hK5 => ?_))
 have F := F.tq (L82 g1) rfl
 refine Dn F [some (.iface 132 (.agg #[])), some (L62 gx), some (bT), some (bF), some (bF), some (.iface 132 (.agg #[])), some (L62 gx), some (L62 gx), some (L62 gx), some (bF), some (bF), some (bF)] (fun L A w => Sx.Own w0 w [(true, g1, (L63 gx))] []) H.drew ?_ ?_
 ·refine ⟨?_, ?_, ?_, ?_, ?_, ?_, ?_, ?_, ?_, ?_, ?_, ?_, trivial⟩
  ·exact Sa
  ·exact SV (fun _ _ _ F H => Lr 0 (L63 gx) rw_35 F H)
  ·intro L A w up hun hd F H
   refine step_on rfl (d_callI (vs := (L83 gx)) (v := bT) im_197 F H rfl rfl rfl (Calls.val (gright2_c 2 0#64 gx 0#128 0#128 0#128 0#32 0#32 false _) rfl (congrArg Value.bool (hr)))) ?_
   rintro xv w' ⟨hx, H⟩
   exact ⟨Cs hx, H⟩
  ·exact SV (fun _ _ _ F _ => d_un (v := bF) F rfl rfl rfl)
  ·exact Sa
  ·exact SVg (fun _ _ _ F _ => d_move F (Or.inl rfl) rfl)
  ·exact SVg (fun _ _ _ F H => Lr 0 (L63 gx) rw_35 F H)
  ·intro L A w up hun hd F H
   refine step_ong rfl (guard_known (d := 15) (b := false) F rfl rfl) rfl (d_callI (vs := (L83 gx)) (v := (L62 gx)) im_193 F H rfl rfl rfl (galone2_c 2 0#64 gx 0#128 0#128 0#128 0#32 0#32 false _)) ?_
   rintro xv w' ⟨hx, H⟩
   exact ⟨Cs hx, H⟩
  ·exact SVg (fun _ _ _ F H => Lr 0 (L63 gx) rw_35 F H)
  ·exact SVg (fun _ _ _ F _ => Bn bF F rfl rfl rfl (i_neS (u := (⟨2, 0#64, gx, 0#128, 0#128, 0#128, 0#32, 0#32, false⟩ : Gs)) (v := (⟨2, 0#64, gx, 0#128, 0#128, 0#128, 0#32, 0#32, false⟩ : Gs)) (by rw [show Sx.eqbS (⟨2, 0#64, gx, 0#128, 0#128, 0#128, 0#32, 0#32, false⟩ : Gs) (⟨2, 0#64, gx, 0#128, 0#128, 0#128, 0#32, 0#32, false⟩ : Gs) = true from Sx.eqbS_self] <;> rfl)))
  ·exact Sa
  ·exact Sa
 ·intro L A w hL F H
  have F := F.tq [(2, iI 0), (10, bF)] rfl
  refine hK5 _ _ (condF F rfl (wp_skip (hK3 _ _ (Sp fun _ kk => Av F fun A F => ?_))))
  refine Nl kk (wp_ret ?_)
  try dsimp only [Exit.then, Exit.inBlock, Exit.jump, Exit.noGoto]
  refine ret1 F Tryz.results7 (res_tmp F rfl) ⟨?_, H.below⟩
  rfl
abbrev L84 (x0 : BitVec 64) (x1 : St) (x2 x3 x4 : BitVec 128) (x5 x6 : BitVec 32) (x7 : Bool) : Value := .agg #[iI 2, uN x0, uN x1.a, uN x1.b, uN x1.c, uN x1.d, uH x2, uL x2, uH x3, uL x3, uH x4, uL x4, iW x5.toNat, iW x6.toNat, .bool x7]
abbrev L85 (x0 : BitVec 64) (x1 : St) (x2 x3 x4 : BitVec 128) (x5 x6 : BitVec 32) (x7 : Bool) : List Value := [iI 2, uN x0, uN x1.a, uN x1.b, uN x1.c, uN x1.d, uH x2, uL x2, uH x3, uL x3, uH x4, uL x4, iW x5.toNat, iW x6.toNat, .bool x7]
abbrev L86 (x0 : BitVec 64) (x1 : St) (x2 x3 x4 : BitVec 128) (x5 x6 : BitVec 32) (x7 : Bool) : List Value := [.agg #[iI 2, uN x0, uN x1.a, uN x1.b, uN x1.c, uN x1.d, uH x2, uL x2, uH x3, uL x3, uH x4, uL x4, iW x5.toNat, iW x6.toNat, .bool x7]]
open Sx in
theorem gcheck2_no (gm : BitVec 64) (gx : St) (ps pi hc : BitVec 128) (k0 k1 : BitVec 32) (hb : Bool) (hr : Xj.right gx = false) (w0 : World) : Calls Tryz.prog 7 #[(L84 gm gx ps pi hc k0 k1 hb)] w0 fun e w' => e = .returned (iI 3) ∧ Below w0.heap.size w0 w' := by
 refine En Tryz.func7 Tryz.ntmps7 fun A F => ?_
 have H := Sx.Own.start w0
 refine Sp fun _ kk => Zb F (d_box F H rfl rfl (L85 gm gx ps pi hc k0 k1 hb) rfl) fun g1 A w F H => ?_
 refine Av F fun A F => ?_
 refine Nl kk (Sp fun _ kk => ?_)
 iterate 2 (refine Av F ?_; intro A F)
 refine Zw F (Dc if_26 F H (gof2_c _)) fun A w F H => ?_
 refine Av F fun A F => ?_
 refine Nl kk (Sx.seq fun K3 hK3 => wp_block (Sp fun _ kk => Av F fun A F => ?_))
 refine Zn bF F fun A F => ?_
 refine Av F fun A F => ?_
 refine Nl kk (condF F rfl (Sx.seq fun K5 hK5 => ?_))
 have F := F.tq (L82 g1) rfl
 refine Dn F [some (.iface 132 (.agg #[])), some (L84 gm gx ps pi hc k0 k1 hb), some (bF), some (bT), some (bT), some (undef), some (undef), some (undef), some (undef), some (undef), some (bT), some (bT)] (fun L A w => Sx.Own w0 w [(true, g1, (L85 gm gx ps pi hc k0 k1 hb))] []) H.drew ?_ ?_
 ·refine ⟨?_, ?_, ?_, ?_, ?_, ?_, ?_, ?_, ?_, ?_, ?_, ?_, trivial⟩
  ·exact Sa
  ·exact SV (fun _ _ _ F H => Lr 0 (L85 gm gx ps pi hc k0 k1 hb) rw_35 F H)
  ·intro L A w up hun hd F H
   refine step_on rfl (d_callI (vs := (L86 gm gx ps pi hc k0 k1 hb)) (v := bF) im_197 F H rfl rfl rfl (Calls.val (gright2_c 2 gm gx ps pi hc k0 k1 hb _) rfl (congrArg Value.bool (hr)))) ?_
   rintro xv w' ⟨hx, H⟩
   exact ⟨Cs hx, H⟩
  ·exact SV (fun _ _ _ F _ => d_un (v := bT) F rfl rfl rfl)
  ·exact Sa
  ·exact SO
  ·exact SO
  ·exact SO
  ·exact SO
  ·exact SO
  ·exact Sa
  ·exact Sa
 ·intro L A w hL F H
  have F := F.tq [(2, iI 0), (10, bT)] rfl
  refine hK5 _ _ (condT F rfl (Sp fun _ kk => Av F fun A F => ?_))
  refine Nl kk (wp_ret ?_)
  try dsimp only [Exit.then, Exit.inBlock, Exit.jump, Exit.noGoto]
  refine ret1 F Tryz.results7 (res_tmp F rfl) ⟨?_, H.below⟩
  rfl
open Sx in
theorem gcheck2_not (gm : BitVec 64) (gx : St) (ps pi hc : BitVec 128) (k0 k1 : BitVec 32) (hb : Bool) (hr : Xj.right gx = true) (he : Sx.eqbS (⟨2, 0#64, gx, 0#128, 0#128, 0#128, 0#32, 0#32, false⟩ : Gs) (⟨2, gm, gx, ps, pi, hc, k0, k1, hb⟩ : Gs) = false) (w0 : World) : Calls Tryz.prog 7 #[(L84 gm gx ps pi hc k0 k1 hb)] w0 fun e w' => e = .returned (iI 3) ∧ Below w0.heap.size w0 w' := by
 refine En Tryz.func7 Tryz.ntmps7 fun A F => ?_
 have H := Sx.Own.start w0
 refine Sp fun _ kk => Zb F (d_box F H rfl rfl (L85 gm gx ps pi hc k0 k1 hb) rfl) fun g1 A w F H => ?_
 refine Av F fun A F => ?_
 refine Nl kk (Sp fun _ kk => ?_)
 iterate 2 (refine Av F ?_; intro A F)
 refine Zw F (Dc if_26 F H (gof2_c _)) fun A w F H => ?_
 refine Av F fun A F => ?_
 refine Nl kk (Sx.seq fun K3 hK3 => wp_block (Sp fun _ kk => Av F fun A F => ?_))
 refine Zn bF F fun A F => ?_
 refine Av F fun A F => ?_
 refine Nl kk (condF F rfl (Sx.seq fun K5 hK5 => ?_))
 have F := F.tq (L82 g1) rfl
 refine Dn F [some (.iface 132 (.agg #[])), some (L84 gm gx ps pi hc k0 k1 hb), some (bT), some (bF), some (bF), some (.iface 132 (.agg #[])), some (L84 gm gx ps pi hc k0 k1 hb), some (L62 gx), some (L84 gm gx ps pi hc k0 k1 hb), some (bT), some (bT), some (bT)] (fun L A w => Sx.Own w0 w [(true, g1, (L85 gm gx ps pi hc k0 k1 hb))] []) H.drew ?_ ?_
 ·refine ⟨?_, ?_, ?_, ?_, ?_, ?_, ?_, ?_, ?_, ?_, ?_, ?_, trivial⟩
  ·exact Sa
  ·exact SV (fun _ _ _ F H => Lr 0 (L85 gm gx ps pi hc k0 k1 hb) rw_35 F H)
  ·intro L A w up hun hd F H
   refine step_on rfl (d_callI (vs := (L86 gm gx ps pi hc k0 k1 hb)) (v := bT) im_197 F H rfl rfl rfl (Calls.val (gright2_c 2 gm gx ps pi hc k0 k1 hb _) rfl (congrArg Value.bool (hr)))) ?_
   rintro xv w' ⟨hx, H⟩
   exact ⟨Cs hx, H⟩
  ·exact SV (fun _ _ _ F _ => d_un (v := bF) F rfl rfl rfl)
  ·exact Sa
  ·exact SVg (fun _ _ _ F _ => d_move F (Or.inl rfl) rfl)
  ·exact SVg (fun _ _ _ F H => Lr 0 (L85 gm gx ps pi hc k0 k1 hb) rw_35 F H)
  ·intro L A w up hun hd F H
   refine step_ong rfl (guard_known (d := 15) (b := false) F rfl rfl) rfl (d_callI (vs := (L86 gm gx ps pi hc k0 k1 hb)) (v := (L62 gx)) im_193 F H rfl rfl rfl (galone2_c 2 gm gx ps pi hc k0 k1 hb _)) ?_
   rintro xv w' ⟨hx, H⟩
   exact ⟨Cs hx, H⟩
  ·exact SVg (fun _ _ _ F H => Lr 0 (L85 gm gx ps pi hc k0 k1 hb) rw_35 F H)
  ·exact SVg (fun _ _ _ F _ => Bn bT F rfl rfl rfl (i_neS (u := (⟨2, 0#64, gx, 0#128, 0#128, 0#128, 0#32, 0#32, false⟩ : Gs)) (v := (⟨2, gm, gx, ps, pi, hc, k0, k1, hb⟩ : Gs)) (by rw [show Sx.eqbS (⟨2, 0#64, gx, 0#128, 0#128, 0#128, 0#32, 0#32, false⟩ : Gs) (⟨2, gm, gx, ps, pi, hc, k0, k1, hb⟩ : Gs) = false from he] <;> rfl)))
  ·exact Sa
  ·exact Sa
 ·intro L A w hL F H
  have F := F.tq [(2, iI 0), (10, bT)] rfl
  refine hK5 _ _ (condT F rfl (Sp fun _ kk => Av F fun A F => ?_))
  refine Nl kk (wp_ret ?_)
  try dsimp only [Exit.then, Exit.inBlock, Exit.jump, Exit.noGoto]
  refine ret1 F Tryz.results7 (res_tmp F rfl) ⟨?_, H.below⟩
  rfl
abbrev L87 (x0 : Nat) : List (Nat × Value) := [(1, pT x0 0), (2, iI 0), (3, .iface 133 (.agg #[]))]
abbrev L88 (x0 x1 : BitVec 128) : List Value := [.agg #[iI 3, iU 0, iU 0, iU 0, iU 0, iU 0, uH x0, uL x0, uH x1, uL x1, uN (Wd.hi 0#128), uN (Wd.lo 0#128), iW 0, iW 0, bF]]
open Sx in
theorem gcheck3_ok (ps pi : BitVec 128) (hr : Af.odd pi = true) (w0 : World) : Calls Tryz.prog 7 #[(L64 ps pi)] w0 fun e w' => e = .returned (iI 0) ∧ Below w0.heap.size w0 w' := by
 refine En Tryz.func7 Tryz.ntmps7 fun A F => ?_
 have H := Sx.Own.start w0
 refine Sp fun _ kk => Zb F (d_box F H rfl rfl (L65 ps pi) rfl) fun g1 A w F H => ?_
 refine Av F fun A F => ?_
 refine Nl kk (Sp fun _ kk => ?_)
 iterate 2 (refine Av F ?_; intro A F)
 refine Zw F (Dc if_26 F H (gof3_c _)) fun A w F H => ?_
 refine Av F fun A F => ?_
 refine Nl kk (Sx.seq fun K3 hK3 => wp_block (Sp fun _ kk => Av F fun A F => ?_))
 refine Zn bF F fun A F => ?_
 refine Av F fun A F => ?_
 refine Nl kk (condF F rfl (Sx.seq fun K5 hK5 => ?_))
 have F := F.tq (L87 g1) rfl
 refine Dn F [some (.iface 133 (.agg #[])), some (L64 ps pi), some (bT), some (bF), some (bF), some (.iface 133 (.agg #[])), some (L64 ps pi), some (L64 ps pi), some (L64 ps pi), some (bF), some (bF), some (bF)] (fun L A w => Sx.Own w0 w [(true, g1, (L65 ps pi))] []) H.drew ?_ ?_
 ·refine ⟨?_, ?_, ?_, ?_, ?_, ?_, ?_, ?_, ?_, ?_, ?_, ?_, trivial⟩
  ·exact Sa
  ·exact SV (fun _ _ _ F H => Lr 0 (L65 ps pi) rw_35 F H)
  ·intro L A w up hun hd F H
   refine step_on rfl (d_callI (vs := (L88 ps pi)) (v := bT) im_244 F H rfl rfl rfl (Calls.val (gright3_c 3 0#64 Xo.zero ps pi 0#128 0#32 0#32 false _) rfl (congrArg Value.bool (hr)))) ?_
   rintro xv w' ⟨hx, H⟩
   exact ⟨Cs hx, H⟩
  ·exact SV (fun _ _ _ F _ => d_un (v := bF) F rfl rfl rfl)
  ·exact Sa
  ·exact SVg (fun _ _ _ F _ => d_move F (Or.inl rfl) rfl)
  ·exact SVg (fun _ _ _ F H => Lr 0 (L65 ps pi) rw_35 F H)
  ·intro L A w up hun hd F H
   refine step_ong rfl (guard_known (d := 15) (b := false) F rfl rfl) rfl (d_callI (vs := (L88 ps pi)) (v := (L64 ps pi)) im_240 F H rfl rfl rfl (galone3_c 3 0#64 Xo.zero ps pi 0#128 0#32 0#32 false _)) ?_
   rintro xv w' ⟨hx, H⟩
   exact ⟨Cs hx, H⟩
  ·exact SVg (fun _ _ _ F H => Lr 0 (L65 ps pi) rw_35 F H)
  ·exact SVg (fun _ _ _ F _ => Bn bF F rfl rfl rfl (i_neS (u := (⟨3, 0#64, Xo.zero, ps, pi, 0#128, 0#32, 0#32, false⟩ : Gs)) (v := (⟨3, 0#64, Xo.zero, ps, pi, 0#128, 0#32, 0#32, false⟩ : Gs)) (by rw [show Sx.eqbS (⟨3, 0#64, Xo.zero, ps, pi, 0#128, 0#32, 0#32, false⟩ : Gs) (⟨3, 0#64, Xo.zero, ps, pi, 0#128, 0#32, 0#32, false⟩ : Gs) = true from Sx.eqbS_self] <;> rfl)))
  ·exact Sa
  ·exact Sa
 ·intro L A w hL F H
  have F := F.tq [(2, iI 0), (10, bF)] rfl
  refine hK5 _ _ (condF F rfl (wp_skip (hK3 _ _ (Sp fun _ kk => Av F fun A F => ?_))))
  refine Nl kk (wp_ret ?_)
  try dsimp only [Exit.then, Exit.inBlock, Exit.jump, Exit.noGoto]
  refine ret1 F Tryz.results7 (res_tmp F rfl) ⟨?_, H.below⟩
  rfl
abbrev L89 (x0 : BitVec 64) (x1 : St) (x2 x3 x4 : BitVec 128) (x5 x6 : BitVec 32) (x7 : Bool) : Value := .agg #[iI 3, uN x0, uN x1.a, uN x1.b, uN x1.c, uN x1.d, uH x2, uL x2, uH x3, uL x3, uH x4, uL x4, iW x5.toNat, iW x6.toNat, .bool x7]
abbrev L90 (x0 : BitVec 64) (x1 : St) (x2 x3 x4 : BitVec 128) (x5 x6 : BitVec 32) (x7 : Bool) : List Value := [iI 3, uN x0, uN x1.a, uN x1.b, uN x1.c, uN x1.d, uH x2, uL x2, uH x3, uL x3, uH x4, uL x4, iW x5.toNat, iW x6.toNat, .bool x7]
abbrev L91 (x0 : BitVec 64) (x1 : St) (x2 x3 x4 : BitVec 128) (x5 x6 : BitVec 32) (x7 : Bool) : List Value := [.agg #[iI 3, uN x0, uN x1.a, uN x1.b, uN x1.c, uN x1.d, uH x2, uL x2, uH x3, uL x3, uH x4, uL x4, iW x5.toNat, iW x6.toNat, .bool x7]]
open Sx in
theorem gcheck3_no (gm : BitVec 64) (gx : St) (ps pi hc : BitVec 128) (k0 k1 : BitVec 32) (hb : Bool) (hr : Af.odd pi = false) (w0 : World) : Calls Tryz.prog 7 #[(L89 gm gx ps pi hc k0 k1 hb)] w0 fun e w' => e = .returned (iI 3) ∧ Below w0.heap.size w0 w' := by
 refine En Tryz.func7 Tryz.ntmps7 fun A F => ?_
 have H := Sx.Own.start w0
 refine Sp fun _ kk => Zb F (d_box F H rfl rfl (L90 gm gx ps pi hc k0 k1 hb) rfl) fun g1 A w F H => ?_
 refine Av F fun A F => ?_
 refine Nl kk (Sp fun _ kk => ?_)
 iterate 2 (refine Av F ?_; intro A F)
 refine Zw F (Dc if_26 F H (gof3_c _)) fun A w F H => ?_
 refine Av F fun A F => ?_
 refine Nl kk (Sx.seq fun K3 hK3 => wp_block (Sp fun _ kk => Av F fun A F => ?_))
 refine Zn bF F fun A F => ?_
 refine Av F fun A F => ?_
 refine Nl kk (condF F rfl (Sx.seq fun K5 hK5 => ?_))
 have F := F.tq (L87 g1) rfl
 refine Dn F [some (.iface 133 (.agg #[])), some (L89 gm gx ps pi hc k0 k1 hb), some (bF), some (bT), some (bT), some (undef), some (undef), some (undef), some (undef), some (undef), some (bT), some (bT)] (fun L A w => Sx.Own w0 w [(true, g1, (L90 gm gx ps pi hc k0 k1 hb))] []) H.drew ?_ ?_
 ·refine ⟨?_, ?_, ?_, ?_, ?_, ?_, ?_, ?_, ?_, ?_, ?_, ?_, trivial⟩
  ·exact Sa
  ·exact SV (fun _ _ _ F H => Lr 0 (L90 gm gx ps pi hc k0 k1 hb) rw_35 F H)
  ·intro L A w up hun hd F H
   refine step_on rfl (d_callI (vs := (L91 gm gx ps pi hc k0 k1 hb)) (v := bF) im_244 F H rfl rfl rfl (Calls.val (gright3_c 3 gm gx ps pi hc k0 k1 hb _) rfl (congrArg Value.bool (hr)))) ?_
   rintro xv w' ⟨hx, H⟩
   exact ⟨Cs hx, H⟩
  ·exact SV (fun _ _ _ F _ => d_un (v := bT) F rfl rfl rfl)
  ·exact Sa
  ·exact SO
  ·exact SO
  ·exact SO
  ·exact SO
  ·exact SO
  ·exact Sa
  ·exact Sa
 ·intro L A w hL F H
  have F := F.tq [(2, iI 0), (10, bT)] rfl
  refine hK5 _ _ (condT F rfl (Sp fun _ kk => Av F fun A F => ?_))
  refine Nl kk (wp_ret ?_)
  try dsimp only [Exit.then, Exit.inBlock, Exit.jump, Exit.noGoto]
  refine ret1 F Tryz.results7 (res_tmp F rfl) ⟨?_, H.below⟩
  rfl
open Sx in
theorem gcheck3_not (gm : BitVec 64) (gx : St) (ps pi hc : BitVec 128) (k0 k1 : BitVec 32) (hb : Bool) (hr : Af.odd pi = true) (he : Sx.eqbS (⟨3, 0#64, Xo.zero, ps, pi, 0#128, 0#32, 0#32, false⟩ : Gs) (⟨3, gm, gx, ps, pi, hc, k0, k1, hb⟩ : Gs) = false) (w0 : World) : Calls Tryz.prog 7 #[(L89 gm gx ps pi hc k0 k1 hb)] w0 fun e w' => e = .returned (iI 3) ∧ Below w0.heap.size w0 w' := by
 refine En Tryz.func7 Tryz.ntmps7 fun A F => ?_
 have H := Sx.Own.start w0
 refine Sp fun _ kk => Zb F (d_box F H rfl rfl (L90 gm gx ps pi hc k0 k1 hb) rfl) fun g1 A w F H => ?_
 refine Av F fun A F => ?_
 refine Nl kk (Sp fun _ kk => ?_)
 iterate 2 (refine Av F ?_; intro A F)
 refine Zw F (Dc if_26 F H (gof3_c _)) fun A w F H => ?_
 refine Av F fun A F => ?_
 refine Nl kk (Sx.seq fun K3 hK3 => wp_block (Sp fun _ kk => Av F fun A F => ?_))
 refine Zn bF F fun A F => ?_
 refine Av F fun A F => ?_
 refine Nl kk (condF F rfl (Sx.seq fun K5 hK5 => ?_))
 have F := F.tq (L87 g1) rfl
 refine Dn F [some (.iface 133 (.agg #[])), some (L89 gm gx ps pi hc k0 k1 hb), some (bT), some (bF), some (bF), some (.iface 133 (.agg #[])), some (L89 gm gx ps pi hc k0 k1 hb), some (L64 ps pi), some (L89 gm gx ps pi hc k0 k1 hb), some (bT), some (bT), some (bT)] (fun L A w => Sx.Own w0 w [(true, g1, (L90 gm gx ps pi hc k0 k1 hb))] []) H.drew ?_ ?_
 ·refine ⟨?_, ?_, ?_, ?_, ?_, ?_, ?_, ?_, ?_, ?_, ?_, ?_, trivial⟩
  ·exact Sa
  ·exact SV (fun _ _ _ F H => Lr 0 (L90 gm gx ps pi hc k0 k1 hb) rw_35 F H)
  ·intro L A w up hun hd F H
   refine step_on rfl (d_callI (vs := (L91 gm gx ps pi hc k0 k1 hb)) (v := bT) im_244 F H rfl rfl rfl (Calls.val (gright3_c 3 gm gx ps pi hc k0 k1 hb _) rfl (congrArg Value.bool (hr)))) ?_
   rintro xv w' ⟨hx, H⟩
   exact ⟨Cs hx, H⟩
  ·exact SV (fun _ _ _ F _ => d_un (v := bF) F rfl rfl rfl)
  ·exact Sa
  ·exact SVg (fun _ _ _ F _ => d_move F (Or.inl rfl) rfl)
  ·exact SVg (fun _ _ _ F H => Lr 0 (L90 gm gx ps pi hc k0 k1 hb) rw_35 F H)
  ·intro L A w up hun hd F H
   refine step_ong rfl (guard_known (d := 15) (b := false) F rfl rfl) rfl (d_callI (vs := (L91 gm gx ps pi hc k0 k1 hb)) (v := (L64 ps pi)) im_240 F H rfl rfl rfl (galone3_c 3 gm gx ps pi hc k0 k1 hb _)) ?_
   rintro xv w' ⟨hx, H⟩
   exact ⟨Cs hx, H⟩
  ·exact SVg (fun _ _ _ F H => Lr 0 (L90 gm gx ps pi hc k0 k1 hb) rw_35 F H)
  ·exact SVg (fun _ _ _ F _ => Bn bT F rfl rfl rfl (i_neS (u := (⟨3, 0#64, Xo.zero, ps, pi, 0#128, 0#32, 0#32, false⟩ : Gs)) (v := (⟨3, gm, gx, ps, pi, hc, k0, k1, hb⟩ : Gs)) (by rw [show Sx.eqbS (⟨3, 0#64, Xo.zero, ps, pi, 0#128, 0#32, 0#32, false⟩ : Gs) (⟨3, gm, gx, ps, pi, hc, k0, k1, hb⟩ : Gs) = false from he] <;> rfl)))
  ·exact Sa
  ·exact Sa
 ·intro L A w hL F H
  have F := F.tq [(2, iI 0), (10, bT)] rfl
  refine hK5 _ _ (condT F rfl (Sp fun _ kk => Av F fun A F => ?_))
  refine Nl kk (wp_ret ?_)
  try dsimp only [Exit.then, Exit.inBlock, Exit.jump, Exit.noGoto]
  refine ret1 F Tryz.results7 (res_tmp F rfl) ⟨?_, H.below⟩
  rfl
abbrev L92 (x0 : BitVec 128) (x1 x2 : BitVec 32) (x3 : Bool) : List Value := [.agg #[iI 4, iU 0, iU 0, iU 0, iU 0, iU 0, uN (Wd.hi 0#128), uN (Wd.lo 0#128), uN (Wd.hi 0#128), uN (Wd.lo 0#128), uH x0, uL x0, iW x1.toNat, iW x2.toNat, .bool x3]]
open Sx in
theorem gcheck4_ok (hc : BitVec 128) (k0 k1 : BitVec 32) (hb : Bool) (w0 : World) : Calls Tryz.prog 7 #[(L66 hc k0 k1 hb)] w0 fun e w' => e = .returned (iI 0) ∧ Below w0.heap.size w0 w' := by
 refine En Tryz.func7 Tryz.ntmps7 fun A F => ?_
 have H := Sx.Own.start w0
 refine Sp fun _ kk => Zb F (d_box F H rfl rfl (L67 hc k0 k1 hb) rfl) fun g1 A w F H => ?_
 refine Av F fun A F => ?_
 refine Nl kk (Sp fun _ kk => ?_)
 iterate 2 (refine Av F ?_; intro A F)
 refine Zw F (Dc if_26 F H (gof4_c _)) fun A w F H => ?_
 refine Av F fun A F => ?_
 refine Nl kk (Sx.seq fun K3 hK3 => wp_block (Sp fun _ kk => Av F fun A F => ?_))
 refine Zn bF F fun A F => ?_
 refine Av F fun A F => ?_
 refine Nl kk (condF F rfl (Sx.seq fun K5 hK5 => ?_))
 have F := F.tq [(1, pT g1 0), (2, iI 0), (3, .iface 134 (.agg #[]))] rfl
 refine Dn F [some (.iface 134 (.agg #[])), some (L66 hc k0 k1 hb), some (bT), some (bF), some (bF), some (.iface 134 (.agg #[])), some (L66 hc k0 k1 hb), some (L66 hc k0 k1 hb), some (L66 hc k0 k1 hb), some (bF), some (bF), some (bF)] (fun L A w => Sx.Own w0 w [(true, g1, (L67 hc k0 k1 hb))] []) H.drew ?_ ?_
 ·refine ⟨?_, ?_, ?_, ?_, ?_, ?_, ?_, ?_, ?_, ?_, ?_, ?_, trivial⟩
  ·exact Sa
  ·exact SV (fun _ _ _ F H => Lr 0 (L67 hc k0 k1 hb) rw_35 F H)
  ·intro L A w up hun hd F H
   refine step_on rfl (d_callI (vs := (L92 hc k0 k1 hb)) (v := bT) im_262 F H rfl rfl rfl (gright4_c 4 0#64 Xo.zero 0#128 0#128 hc k0 k1 hb _)) ?_
   rintro xv w' ⟨hx, H⟩
   exact ⟨Cs hx, H⟩
  ·exact SV (fun _ _ _ F _ => d_un (v := bF) F rfl rfl rfl)
  ·exact Sa
  ·exact SVg (fun _ _ _ F _ => d_move F (Or.inl rfl) rfl)
  ·exact SVg (fun _ _ _ F H => Lr 0 (L67 hc k0 k1 hb) rw_35 F H)
  ·intro L A w up hun hd F H
   refine step_ong rfl (guard_known (d := 15) (b := false) F rfl rfl) rfl (d_callI (vs := (L92 hc k0 k1 hb)) (v := (L66 hc k0 k1 hb)) im_258 F H rfl rfl rfl (galone4_c 4 0#64 Xo.zero 0#128 0#128 hc k0 k1 hb _)) ?_
   rintro xv w' ⟨hx, H⟩
   exact ⟨Cs hx, H⟩
  ·exact SVg (fun _ _ _ F H => Lr 0 (L67 hc k0 k1 hb) rw_35 F H)
  ·exact SVg (fun _ _ _ F _ => Bn bF F rfl rfl rfl (i_neS (u := (⟨4, 0#64, Xo.zero, 0#128, 0#128, hc, k0, k1, hb⟩ : Gs)) (v := (⟨4, 0#64, Xo.zero, 0#128, 0#128, hc, k0, k1, hb⟩ : Gs)) (by rw [show Sx.eqbS (⟨4, 0#64, Xo.zero, 0#128, 0#128, hc, k0, k1, hb⟩ : Gs) (⟨4, 0#64, Xo.zero, 0#128, 0#128, hc, k0, k1, hb⟩ : Gs) = true from Sx.eqbS_self] <;> rfl)))
  ·exact Sa
  ·exact Sa
 ·intro L A w hL F H
  have F := F.tq [(2, iI 0), (10, bF)] rfl
  refine hK5 _ _ (condF F rfl (wp_skip (hK3 _ _ (Sp fun _ kk => Av F fun A F => ?_))))
  refine Nl kk (wp_ret ?_)
  try dsimp only [Exit.then, Exit.inBlock, Exit.jump, Exit.noGoto]
  refine ret1 F Tryz.results7 (res_tmp F rfl) ⟨?_, H.below⟩
  rfl
abbrev L93 (x0 : BitVec 64) (x1 : St) (x2 x3 x4 : BitVec 128) (x5 x6 : BitVec 32) (x7 : Bool) : Value := .agg #[iI 4, uN x0, uN x1.a, uN x1.b, uN x1.c, uN x1.d, uH x2, uL x2, uH x3, uL x3, uH x4, uL x4, iW x5.toNat, iW x6.toNat, .bool x7]
abbrev L94 (x0 : BitVec 64) (x1 : St) (x2 x3 x4 : BitVec 128) (x5 x6 : BitVec 32) (x7 : Bool) : List Value := [iI 4, uN x0, uN x1.a, uN x1.b, uN x1.c, uN x1.d, uH x2, uL x2, uH x3, uL x3, uH x4, uL x4, iW x5.toNat, iW x6.toNat, .bool x7]
open Sx in
theorem gcheck4_not (gm : BitVec 64) (gx : St) (ps pi hc : BitVec 128) (k0 k1 : BitVec 32) (hb : Bool) (he : Sx.eqbS (⟨4, 0#64, Xo.zero, 0#128, 0#128, hc, k0, k1, hb⟩ : Gs) (⟨4, gm, gx, ps, pi, hc, k0, k1, hb⟩ : Gs) = false) (w0 : World) : Calls Tryz.prog 7 #[(L93 gm gx ps pi hc k0 k1 hb)] w0 fun e w' => e = .returned (iI 3) ∧ Below w0.heap.size w0 w' := by
 refine En Tryz.func7 Tryz.ntmps7 fun A F => ?_
 have H := Sx.Own.start w0
 refine Sp fun _ kk => Zb F (d_box F H rfl rfl (L94 gm gx ps pi hc k0 k1 hb) rfl) fun g1 A w F H => ?_
 refine Av F fun A F => ?_
 refine Nl kk (Sp fun _ kk => ?_)
 iterate 2 (refine Av F ?_; intro A F)
 refine Zw F (Dc if_26 F H (gof4_c _)) fun A w F H => ?_
 refine Av F fun A F => ?_
 refine Nl kk (Sx.seq fun K3 hK3 => wp_block (Sp fun _ kk => Av F fun A F => ?_))
 refine Zn bF F fun A F => ?_
 refine Av F fun A F => ?_
 refine Nl kk (condF F rfl (Sx.seq fun K5 hK5 => ?_))
 have F := F.tq [(1, pT g1 0), (2, iI 0), (3, .iface 134 (.agg #[]))] rfl
 refine Dn F [some (.iface 134 (.agg #[])), some (L93 gm gx ps pi hc k0 k1 hb), some (bT), some (bF), some (bF), some (.iface 134 (.agg #[])), some (L93 gm gx ps pi hc k0 k1 hb), some (L66 hc k0 k1 hb), some (L93 gm gx ps pi hc k0 k1 hb), some (bT), some (bT), some (bT)] (fun L A w => Sx.Own w0 w [(true, g1, (L94 gm gx ps pi hc k0 k1 hb))] []) H.drew ?_ ?_
 ·refine ⟨?_, ?_, ?_, ?_, ?_, ?_, ?_, ?_, ?_, ?_, ?_, ?_, trivial⟩
  ·exact Sa
  ·exact SV (fun _ _ _ F H => Lr 0 (L94 gm gx ps pi hc k0 k1 hb) rw_35 F H)
  ·intro L A w up hun hd F H
   refine step_on rfl (d_callI (vs := [(L93 gm gx ps pi hc k0 k1 hb)]) (v := bT) im_262 F H rfl rfl rfl (gright4_c 4 gm gx ps pi hc k0 k1 hb _)) ?_
   rintro xv w' ⟨hx, H⟩
   exact ⟨Cs hx, H⟩
  ·exact SV (fun _ _ _ F _ => d_un (v := bF) F rfl rfl rfl)
  ·exact Sa
  ·exact SVg (fun _ _ _ F _ => d_move F (Or.inl rfl) rfl)
  ·exact SVg (fun _ _ _ F H => Lr 0 (L94 gm gx ps pi hc k0 k1 hb) rw_35 F H)
  ·intro L A w up hun hd F H
   refine step_ong rfl (guard_known (d := 15) (b := false) F rfl rfl) rfl (d_callI (vs := [(L93 gm gx ps pi hc k0 k1 hb)]) (v := (L66 hc k0 k1 hb)) im_258 F H rfl rfl rfl (galone4_c 4 gm gx ps pi hc k0 k1 hb _)) ?_
   rintro xv w' ⟨hx, H⟩
   exact ⟨Cs hx, H⟩
  ·exact SVg (fun _ _ _ F H => Lr 0 (L94 gm gx ps pi hc k0 k1 hb) rw_35 F H)
  ·exact SVg (fun _ _ _ F _ => Bn bT F rfl rfl rfl (i_neS (u := (⟨4, 0#64, Xo.zero, 0#128, 0#128, hc, k0, k1, hb⟩ : Gs)) (v := (⟨4, gm, gx, ps, pi, hc, k0, k1, hb⟩ : Gs)) (by rw [show Sx.eqbS (⟨4, 0#64, Xo.zero, 0#128, 0#128, hc, k0, k1, hb⟩ : Gs) (⟨4, gm, gx, ps, pi, hc, k0, k1, hb⟩ : Gs) = false from he] <;> rfl)))
  ·exact Sa
  ·exact Sa
 ·intro L A w hL F H
  have F := F.tq [(2, iI 0), (10, bT)] rfl
  refine hK5 _ _ (condT F rfl (Sp fun _ kk => Av F fun A F => ?_))
  refine Nl kk (wp_ret ?_)
  try dsimp only [Exit.then, Exit.inBlock, Exit.jump, Exit.noGoto]
  refine ret1 F Tryz.results7 (res_tmp F rfl) ⟨?_, H.below⟩
  rfl
open Sx in
theorem gcheckN (gk : Int) (gm : BitVec 64) (gx : St) (ps pi hc : BitVec 128) (k0 k1 : BitVec 32) (hb : Bool) (hk : gk ≠ 1 ∧ gk ≠ 2 ∧ gk ≠ 3 ∧ gk ≠ 4) (w0 : World) : Calls Tryz.prog 7 #[(L58 gk gm gx ps pi hc k0 k1 hb)] w0 fun e w' => e = .returned (iI 2) ∧ Below w0.heap.size w0 w' := by
 refine En Tryz.func7 Tryz.ntmps7 fun A F => ?_
 have H := Sx.Own.start w0
 refine Sp fun _ kk => Zb F (d_box F H rfl rfl (L60 gk gm gx ps pi hc k0 k1 hb) rfl) fun g1 A w F H => ?_
 refine Av F fun A F => ?_
 refine Nl kk (Sp fun _ kk => ?_)
 iterate 2 (refine Av F ?_; intro A F)
 refine Zw F (Dc if_26 F H (gofN_c gk hk _)) fun A w F H => ?_
 refine Av F fun A F => ?_
 refine Nl kk (Sx.seq fun K3 hK3 => wp_block (Sp fun _ kk => Av F fun A F => ?_))
 refine Zn bT F fun A F => ?_
 refine Av F fun A F => ?_
 refine Nl kk (condT F rfl (Sp fun _ kk => Av F fun A F => ?_))
 refine Nl kk (wp_ret ?_)
 try dsimp only [Exit.then, Exit.inBlock, Exit.jump, Exit.noGoto]
 refine ret1 F Tryz.results7 (res_tmp F rfl) ⟨?_, H.below⟩
 rfl
open Sx in
theorem gjmp1_ok (gm : BitVec 64) (n : BitVec 128) (w0 : World) : Calls Tryz.prog 6 #[(L59 gm), .agg #[uH n, uL n]] w0 fun e w' => e = .returned (.tuple #[(L68 gm n), iI 0]) ∧ Below w0.heap.size w0 w' := by
 refine En Tryz.func6 Tryz.ntmps6 fun A F => ?_
 have H := Sx.Own.start w0
 refine Sp fun _ kk => Zb F (d_box F H rfl rfl (L61 gm) rfl) fun g1 A w F H => ?_
 refine Zb F (d_box F H rfl rfl [uH n, uL n] rfl) fun g2 A w F H => ?_
 refine Zb F (d_alloc H rfl L6 zero_35) fun g3 A w F H => ?_
 refine Av F fun A F => ?_
 refine Nl kk (Sx.seq fun K2 hK2 => Sp fun _ kk => Av F fun A F => ?_)
 refine Zw F (Dc if_7 F H (gcheck1_ok gm _)) fun A w F H => ?_
 refine Av F fun A F => ?_
 refine Nl kk (Sp fun _ kk => ?_)
 iterate 2 (refine Av F ?_; intro A F)
 refine Nl kk (condF F rfl (wp_skip (hK2 _ _ (Sx.seq fun K5 hK5 => ?_))))
 have F := F.tq [(2, pT g1 0), (3, pT g2 0), (4, pT g3 0)] rfl
 refine Dn F [some (pT g1 0), some (iI 1), some (.iface 131 (.agg #[])), some (L59 gm), some (.agg #[uH n, uL n]), some (L68 gm n), none, some (iI 0)] (fun L A w => Sx.Own w0 w [(true, g3, (cond (L 6) (L69 gm n) L6)), (true, g2, [uH n, uL n]), (true, g1, (L61 gm))] []) H.drew ?_ ?_
 ·refine ⟨?_, ?_, ?_, ?_, ?_, ?_, ?_, ?_, trivial⟩
  ·exact Sa
  ·exact SV (fun _ _ _ F H => Ld 2 one_3 F H)
  ·intro L A w up hun hd F H
   have f6 : L 6 = false := up 6 2 rfl hun
   rw [f6] at H
   refine step_on rfl (Dc if_26 F H (gof1_c _)) ?_
   rintro xv w' ⟨hx, H⟩
   exact ⟨Cs hx, (by show Sx.Own _ _ _ _; rw [show Inv.add L 2 6 = false from f6]; exact H)⟩
  ·exact SV (fun _ _ _ F H => Lr 2 (L61 gm) rw_35 F H)
  ·exact SV (fun _ _ _ F H => Lr 1 [uH n, uL n] rw_26 F H)
  ·intro L A w up hun hd F H
   have f6 : L 6 = false := up 6 5 rfl hun
   rw [f6] at H
   refine step_on rfl (d_callI (vs := [(L59 gm), .agg #[uH n, uL n]]) (v := (L68 gm n)) im_183 F H rfl rfl rfl (gjump1_c 1 gm Xo.zero 0#128 0#128 0#128 0#32 0#32 false n _)) ?_
   rintro xv w' ⟨hx, H⟩
   exact ⟨Cs hx, (by show Sx.Own _ _ _ _; rw [show Inv.add L 5 6 = false from f6]; exact H)⟩
  ·intro L A w up hun hd F H
   have f6 : L 6 = false := hun
   rw [f6] at H
   refine step_on rfl (d_store (i := 0) (xs := (L69 gm n)) (us := (L69 gm n)) sz_35 F H rfl rfl rfl rfl rfl rfl rfl (Nat.le_of_ble_eq_true rfl) rfl) ?_
   intro xv w' H
   exact ⟨Cn, H⟩
  ·exact Sa
 ·intro L A w hL F H
  have t6 : L 6 = true := hL 6 rfl
  rw [t6] at H
  have F := F.tq [(4, pT g3 0), (5, iI 0)] rfl
  refine hK5 _ _ (wp_ret ?_)
  try dsimp only [Exit.then, Exit.inBlock, Exit.jump, Exit.noGoto]
  refine ret2 F Tryz.results6 (res_row (i := 0) (xs := [iI 1, uN (Mx.jump gm (Wd.lo n)), iU 0, iU 0, iU 0, iU 0, uN (Wd.hi 0#128), uN (Wd.lo 0#128), uN (Wd.hi 0#128), uN (Wd.lo 0#128), uN (Wd.hi 0#128), uN (Wd.lo 0#128), iW 0, iW 0, bF]) rw_35 F H rfl rfl rfl rfl) (res_tmp F rfl) ⟨?_, H.below⟩
  rfl
open Sx in
theorem gjmp2_ok (gx : St) (hr : Xj.right gx = true) (n : BitVec 128) (w0 : World) : Calls Tryz.prog 6 #[(L62 gx), .agg #[uH n, uL n]] w0 fun e w' => e = .returned (.tuple #[(L70 n gx), iI 0]) ∧ Below w0.heap.size w0 w' := by
 refine En Tryz.func6 Tryz.ntmps6 fun A F => ?_
 have H := Sx.Own.start w0
 refine Sp fun _ kk => Zb F (d_box F H rfl rfl (L63 gx) rfl) fun g1 A w F H => ?_
 refine Zb F (d_box F H rfl rfl [uH n, uL n] rfl) fun g2 A w F H => ?_
 refine Zb F (d_alloc H rfl L6 zero_35) fun g3 A w F H => ?_
 refine Av F fun A F => ?_
 refine Nl kk (Sx.seq fun K2 hK2 => Sp fun _ kk => Av F fun A F => ?_)
 refine Zw F (Dc if_7 F H (gcheck2_ok gx (hr) _)) fun A w F H => ?_
 refine Av F fun A F => ?_
 refine Nl kk (Sp fun _ kk => ?_)
 iterate 2 (refine Av F ?_; intro A F)
 refine Nl kk (condF F rfl (wp_skip (hK2 _ _ (Sx.seq fun K5 hK5 => ?_))))
 have F := F.tq [(2, pT g1 0), (3, pT g2 0), (4, pT g3 0)] rfl
 refine Dn F [some (pT g1 0), some (iI 2), some (.iface 132 (.agg #[])), some (L62 gx), some (.agg #[uH n, uL n]), some (L70 n gx), none, some (iI 0)] (fun L A w => Sx.Own w0 w [(true, g3, (cond (L 6) (L72 n gx) L6)), (true, g2, [uH n, uL n]), (true, g1, (L63 gx))] []) H.drew ?_ ?_
 ·refine ⟨?_, ?_, ?_, ?_, ?_, ?_, ?_, ?_, trivial⟩
  ·exact Sa
  ·exact SV (fun _ _ _ F H => Ld 2 one_3 F H)
  ·intro L A w up hun hd F H
   have f6 : L 6 = false := up 6 2 rfl hun
   rw [f6] at H
   refine step_on rfl (Dc if_26 F H (gof2_c _)) ?_
   rintro xv w' ⟨hx, H⟩
   exact ⟨Cs hx, (by show Sx.Own _ _ _ _; rw [show Inv.add L 2 6 = false from f6]; exact H)⟩
  ·exact SV (fun _ _ _ F H => Lr 2 (L63 gx) rw_35 F H)
  ·exact SV (fun _ _ _ F H => Lr 1 [uH n, uL n] rw_26 F H)
  ·intro L A w up hun hd F H
   have f6 : L 6 = false := up 6 5 rfl hun
   rw [f6] at H
   refine step_on rfl (d_callI (vs := [(L62 gx), .agg #[uH n, uL n]]) (v := (L70 n gx)) im_195 F H rfl rfl rfl (gjump2_c 2 0#64 gx 0#128 0#128 0#128 0#32 0#32 false n (hr) _)) ?_
   rintro xv w' ⟨hx, H⟩
   exact ⟨Cs hx, (by show Sx.Own _ _ _ _; rw [show Inv.add L 5 6 = false from f6]; exact H)⟩
  ·intro L A w up hun hd F H
   have f6 : L 6 = false := hun
   rw [f6] at H
   refine step_on rfl (d_store (i := 0) (xs := (L72 n gx)) (us := (L72 n gx)) sz_35 F H rfl rfl rfl rfl rfl rfl rfl (Nat.le_of_ble_eq_true rfl) rfl) ?_
   intro xv w' H
   exact ⟨Cn, H⟩
  ·exact Sa
 ·intro L A w hL F H
  have t6 : L 6 = true := hL 6 rfl
  rw [t6] at H
  have F := F.tq [(4, pT g3 0), (5, iI 0)] rfl
  refine hK5 _ _ (wp_ret ?_)
  try dsimp only [Exit.then, Exit.inBlock, Exit.jump, Exit.noGoto]
  refine ret2 F Tryz.results6 (res_row (i := 0) (xs := [iI 2, iU 0, iU ((Xo.it n.toNat gx).a.toNat), iU ((Xo.it n.toNat gx).b.toNat), iU ((Xo.it n.toNat gx).c.toNat), iU ((Xo.it n.toNat gx).d.toNat), uN (Wd.hi 0#128), uN (Wd.lo 0#128), uN (Wd.hi 0#128), uN (Wd.lo 0#128), uN (Wd.hi 0#128), uN (Wd.lo 0#128), iW 0, iW 0, bF]) rw_35 F H rfl rfl rfl rfl) (res_tmp F rfl) ⟨?_, H.below⟩
  rfl
open Sx in
theorem gjmp3_ok (ps pi : BitVec 128) (hr : Af.odd pi = true) (n : BitVec 128) (w0 : World) : Calls Tryz.prog 6 #[(L64 ps pi), .agg #[uH n, uL n]] w0 fun e w' => e = .returned (.tuple #[(L73 ps pi n), iI 0]) ∧ Below w0.heap.size w0 w' := by
 refine En Tryz.func6 Tryz.ntmps6 fun A F => ?_
 have H := Sx.Own.start w0
 refine Sp fun _ kk => Zb F (d_box F H rfl rfl (L65 ps pi) rfl) fun g1 A w F H => ?_
 refine Zb F (d_box F H rfl rfl [uH n, uL n] rfl) fun g2 A w F H => ?_
 refine Zb F (d_alloc H rfl L6 zero_35) fun g3 A w F H => ?_
 refine Av F fun A F => ?_
 refine Nl kk (Sx.seq fun K2 hK2 => Sp fun _ kk => Av F fun A F => ?_)
 refine Zw F (Dc if_7 F H (gcheck3_ok ps pi (hr) _)) fun A w F H => ?_
 refine Av F fun A F => ?_
 refine Nl kk (Sp fun _ kk => ?_)
 iterate 2 (refine Av F ?_; intro A F)
 refine Nl kk (condF F rfl (wp_skip (hK2 _ _ (Sx.seq fun K5 hK5 => ?_))))
 have F := F.tq [(2, pT g1 0), (3, pT g2 0), (4, pT g3 0)] rfl
 refine Dn F [some (pT g1 0), some (iI 3), some (.iface 133 (.agg #[])), some (L64 ps pi), some (.agg #[uH n, uL n]), some (L73 ps pi n), none, some (iI 0)] (fun L A w => Sx.Own w0 w [(true, g3, (cond (L 6) (L74 ps pi n) L6)), (true, g2, [uH n, uL n]), (true, g1, (L65 ps pi))] []) H.drew ?_ ?_
 ·refine ⟨?_, ?_, ?_, ?_, ?_, ?_, ?_, ?_, trivial⟩
  ·exact Sa
  ·exact SV (fun _ _ _ F H => Ld 2 one_3 F H)
  ·intro L A w up hun hd F H
   have f6 : L 6 = false := up 6 2 rfl hun
   rw [f6] at H
   refine step_on rfl (Dc if_26 F H (gof3_c _)) ?_
   rintro xv w' ⟨hx, H⟩
   exact ⟨Cs hx, (by show Sx.Own _ _ _ _; rw [show Inv.add L 2 6 = false from f6]; exact H)⟩
  ·exact SV (fun _ _ _ F H => Lr 2 (L65 ps pi) rw_35 F H)
  ·exact SV (fun _ _ _ F H => Lr 1 [uH n, uL n] rw_26 F H)
  ·intro L A w up hun hd F H
   have f6 : L 6 = false := up 6 5 rfl hun
   rw [f6] at H
   refine step_on rfl (d_callI (vs := [(L64 ps pi), .agg #[uH n, uL n]]) (v := (L73 ps pi n)) im_242 F H rfl rfl rfl (gjump3_c 3 0#64 Xo.zero ps pi 0#128 0#32 0#32 false n (hr) _)) ?_
   rintro xv w' ⟨hx, H⟩
   exact ⟨Cs hx, (by show Sx.Own _ _ _ _; rw [show Inv.add L 5 6 = false from f6]; exact H)⟩
  ·intro L A w up hun hd F H
   have f6 : L 6 = false := hun
   rw [f6] at H
   refine step_on rfl (d_store (i := 0) (xs := (L74 ps pi n)) (us := (L74 ps pi n)) sz_35 F H rfl rfl rfl rfl rfl rfl rfl (Nat.le_of_ble_eq_true rfl) rfl) ?_
   intro xv w' H
   exact ⟨Cn, H⟩
  ·exact Sa
 ·intro L A w hL F H
  have t6 : L 6 = true := hL 6 rfl
  rw [t6] at H
  have F := F.tq [(4, pT g3 0), (5, iI 0)] rfl
  refine hK5 _ _ (wp_ret ?_)
  try dsimp only [Exit.then, Exit.inBlock, Exit.jump, Exit.noGoto]
  refine ret2 F Tryz.results6 (res_row (i := 0) (xs := [iI 3, iU 0, iU 0, iU 0, iU 0, iU 0, uH ((Pc.jump ⟨ps, pi⟩ n).s), uL ((Pc.jump ⟨ps, pi⟩ n).s), uH pi, uL pi, uN (Wd.hi 0#128), uN (Wd.lo 0#128), iW 0, iW 0, bF]) rw_35 F H rfl rfl rfl rfl) (res_tmp F rfl) ⟨?_, H.below⟩
  rfl
open Sx in
theorem gjmp4_ok (hc : BitVec 128) (k0 k1 : BitVec 32) (hb : Bool) (n : BitVec 128) (w0 : World) : Calls Tryz.prog 6 #[(L66 hc k0 k1 hb), .agg #[uH n, uL n]] w0 fun e w' => e = .returned (.tuple #[(L75 hc k0 k1 hb n), iI 0]) ∧ Below w0.heap.size w0 w' := by
 refine En Tryz.func6 Tryz.ntmps6 fun A F => ?_
 have H := Sx.Own.start w0
 refine Sp fun _ kk => Zb F (d_box F H rfl rfl (L67 hc k0 k1 hb) rfl) fun g1 A w F H => ?_
 refine Zb F (d_box F H rfl rfl [uH n, uL n] rfl) fun g2 A w F H => ?_
 refine Zb F (d_alloc H rfl L6 zero_35) fun g3 A w F H => ?_
 refine Av F fun A F => ?_
 refine Nl kk (Sx.seq fun K2 hK2 => Sp fun _ kk => Av F fun A F => ?_)
 refine Zw F (Dc if_7 F H (gcheck4_ok hc k0 k1 hb _)) fun A w F H => ?_
 refine Av F fun A F => ?_
 refine Nl kk (Sp fun _ kk => ?_)
 iterate 2 (refine Av F ?_; intro A F)
 refine Nl kk (condF F rfl (wp_skip (hK2 _ _ (Sx.seq fun K5 hK5 => ?_))))
 have F := F.tq [(2, pT g1 0), (3, pT g2 0), (4, pT g3 0)] rfl
 refine Dn F [some (pT g1 0), some (iI 4), some (.iface 134 (.agg #[])), some (L66 hc k0 k1 hb), some (.agg #[uH n, uL n]), some (L75 hc k0 k1 hb n), none, some (iI 0)] (fun L A w => Sx.Own w0 w [(true, g3, (cond (L 6) (L77 hc k0 k1 hb n) L6)), (true, g2, [uH n, uL n]), (true, g1, (L67 hc k0 k1 hb))] []) H.drew ?_ ?_
 ·refine ⟨?_, ?_, ?_, ?_, ?_, ?_, ?_, ?_, trivial⟩
  ·exact Sa
  ·exact SV (fun _ _ _ F H => Ld 2 one_3 F H)
  ·intro L A w up hun hd F H
   have f6 : L 6 = false := up 6 2 rfl hun
   rw [f6] at H
   refine step_on rfl (Dc if_26 F H (gof4_c _)) ?_
   rintro xv w' ⟨hx, H⟩
   exact ⟨Cs hx, (by show Sx.Own _ _ _ _; rw [show Inv.add L 2 6 = false from f6]; exact H)⟩
  ·exact SV (fun _ _ _ F H => Lr 2 (L67 hc k0 k1 hb) rw_35 F H)
  ·exact SV (fun _ _ _ F H => Lr 1 [uH n, uL n] rw_26 F H)
  ·intro L A w up hun hd F H
   have f6 : L 6 = false := up 6 5 rfl hun
   rw [f6] at H
   refine step_on rfl (d_callI (vs := [(L66 hc k0 k1 hb), .agg #[uH n, uL n]]) (v := (L75 hc k0 k1 hb n)) im_260 F H rfl rfl rfl (gjump4_c 4 0#64 Xo.zero 0#128 0#128 hc k0 k1 hb n _)) ?_
   rintro xv w' ⟨hx, H⟩
   exact ⟨Cs hx, (by show Sx.Own _ _ _ _; rw [show Inv.add L 5 6 = false from f6]; exact H)⟩
  ·intro L A w up hun hd F H
   have f6 : L 6 = false := hun
   rw [f6] at H
   refine step_on rfl (d_store (i := 0) (xs := (L77 hc k0 k1 hb n)) (us := (L77 hc k0 k1 hb n)) sz_35 F H rfl rfl rfl rfl rfl rfl rfl (Nat.le_of_ble_eq_true rfl) rfl) ?_
   intro xv w' H
   exact ⟨Cn, H⟩
  ·exact Sa
 ·intro L A w hL F H
  have t6 : L 6 = true := hL 6 rfl
  rw [t6] at H
  have F := F.tq [(4, pT g3 0), (5, iI 0)] rfl
  refine hK5 _ _ (wp_ret ?_)
  try dsimp only [Exit.then, Exit.inBlock, Exit.jump, Exit.noGoto]
  refine ret2 F Tryz.results6 (res_row (i := 0) (xs := [iI 4, iU 0, iU 0, iU 0, iU 0, iU 0, uN (Wd.hi 0#128), uN (Wd.lo 0#128), uN (Wd.hi 0#128), uN (Wd.lo 0#128), uH ((Hf.jump ⟨hc, k0, k1, hb⟩ n).c), uL ((Hf.jump ⟨hc, k0, k1, hb⟩ n).c), iW (((Hf.jump ⟨hc, k0, k1, hb⟩ n).k0).toNat), iW (((Hf.jump ⟨hc, k0, k1, hb⟩ n).k1).toNat), .bool ((Hf.jump ⟨hc, k0, k1, hb⟩ n).b)]) rw_35 F H rfl rfl rfl rfl) (res_tmp F rfl) ⟨?_, H.below⟩
  rfl
open Sx in
theorem gjmp_bad (gk : Int) (gm : BitVec 64) (gx : St) (ps pi hc : BitVec 128) (k0 k1 : BitVec 32) (hb : Bool) (ge : Int) (hge : ge ≠ 0) (hck : ∀ w : World, Calls Tryz.prog 7 #[(L58 gk gm gx ps pi hc k0 k1 hb)] w fun e w' => e = .returned (iI ge) ∧ Below w.heap.size w w') (n : BitVec 128) (w0 : World) : Calls Tryz.prog 6 #[(L58 gk gm gx ps pi hc k0 k1 hb), .agg #[uH n, uL n]] w0 fun e w' => e = .returned (.tuple #[L7, iI ge]) ∧ Below w0.heap.size w0 w' := by
 refine En Tryz.func6 Tryz.ntmps6 fun A F => ?_
 have H := Sx.Own.start w0
 refine Sp fun _ kk => Zb F (d_box F H rfl rfl (L60 gk gm gx ps pi hc k0 k1 hb) rfl) fun g1 A w F H => ?_
 refine Zb F (d_box F H rfl rfl [uH n, uL n] rfl) fun g2 A w F H => ?_
 refine Zb F (d_alloc H rfl L6 zero_35) fun g3 A w F H => ?_
 refine Av F fun A F => ?_
 refine Nl kk (Sx.seq fun K2 hK2 => Sp fun _ kk => Av F fun A F => ?_)
 refine Zw F (Dc if_7 F H (hck _)) fun A w F H => ?_
 refine Av F fun A F => ?_
 refine Nl kk (Sp fun _ kk => Av F fun A F => ?_)
 refine Zv F (Bn bT F rfl rfl rfl (i_ne (by simpa using hge))) fun A F => ?_
 refine Nl kk (condT F rfl (Sp fun _ kk => Zv F (d_build (qs := #[]) (v := L7) F rfl rfl (by kernel_rfl)) fun A F => ?_))
 refine Av F fun A F => ?_
 refine Zs 0 L6 sz_35 F H fun A w F H => ?_
 refine Av F fun A F => ?_
 refine Nl kk (wp_ret ?_)
 try dsimp only [Exit.then, Exit.inBlock, Exit.jump, Exit.noGoto]
 refine ret2 F Tryz.results6 (res_row (i := 0) (xs := [iI 0, iU 0, iU 0, iU 0, iU 0, iU 0, uN (Wd.hi 0#128), uN (Wd.lo 0#128), uN (Wd.hi 0#128), uN (Wd.lo 0#128), uN (Wd.hi 0#128), uN (Wd.lo 0#128), iW 0, iW 0, bF]) rw_35 F H rfl rfl rfl rfl) (res_tmp F rfl) ⟨?_, H.below⟩
 rfl
abbrev L95 : Value := .agg #[uN (Wd.hi 9223372036854775808#128), uN (Wd.lo 9223372036854775808#128)]
open Sx in
theorem glimit1_c  (w0 : World) : Calls Tryz.prog 17 #[iI 1] w0 fun e w' => e = .returned (L95) ∧ Below w0.heap.size w0 w' := by
 refine En Tryz.func17 Tryz.ntmps17 fun A F => ?_
 have H := Sx.Own.start w0
 refine Sp fun _ kk => Zb F (d_alloc H rfl L1 zero_26) fun g1 A w F H => ?_
 refine Nl kk (Sp fun _ kk => Av F fun A F => ?_)
 refine Zw F (Dc if_26 F H (gof1_c _)) fun A w F H => ?_
 refine Av F fun A F => ?_
 refine Nl kk (Sx.seq fun K3 hK3 => Sp fun _ kk => Av F fun A F => ?_)
 refine Zn bF F fun A F => ?_
 refine Nl kk (condF F rfl (wp_skip (hK3 _ _ (Sp fun _ kk => Zw F (d_call (vs := [iU 1]) (v := L26) if_15 F H rfl rfl (Calls.val (wofV_c 1#64 _) (by kernel_rfl) (by kernel_rfl))) fun A w F H => ?_))))
 refine Av F fun A F => ?_
 refine Zw F (d_callI (vs := []) (v := iI 63) im_182 F H rfl rfl rfl (gbits1_c _)) fun A w F H => ?_
 refine Zw F (Dc if_42 F H (wleftN_c 1#128 63 (by omega) _)) fun A w F H => ?_
 refine Zs 0 [uH (1#128 <<< 63), uL (1#128 <<< 63)] sz_26 F H fun A w F H => ?_
 refine Nl kk (wp_ret ?_)
 try dsimp only [Exit.then, Exit.inBlock, Exit.jump, Exit.noGoto]
 refine ret1 F Tryz.results17 (res_row (i := 0) (xs := [uH (1#128 <<< 63), uL (1#128 <<< 63)]) rw_26 F H rfl rfl rfl rfl) ⟨?_, H.below⟩
 rfl
open Sx in
theorem own13_c (gk : Int) (gm : BitVec 64) (gx : St) (ps pi hc : BitVec 128) (k0 k1 : BitVec 32) (hb : Bool) (w0 : World) : Calls Tryz.prog 8 #[(L58 gk gm gx ps pi hc k0 k1 hb)] w0 fun e w' => e = .returned (L58 gk gm gx ps pi hc k0 k1 hb) ∧ Below w0.heap.size w0 w' := by
 refine En Tryz.func8 Tryz.ntmps8 fun A F => ?_
 have H := Sx.Own.start w0
 refine Sp fun _ kk => Zb F (d_box F H rfl rfl (L60 gk gm gx ps pi hc k0 k1 hb) rfl) fun g1 A w F H => ?_
 refine Zb F (d_alloc H rfl L6 zero_47) fun g2 A w F H => ?_
 refine Nl kk (Sx.seq fun K2 hK2 => ?_)
 have F := F.tq [(1, pT g1 0), (2, pT g2 0)] rfl
 refine Dn F [some (pT g1 0), some (iI gk), some (pT g1 1), some (uN gm), some (pT g1 2), some (L9 gx), some (pT g1 6), some (L30 ps pi), some (L30 ps pi), some (pT g1 10), some (L52 hc k0 k1 hb), some (L52 hc k0 k1 hb), some (L58 gk gm gx ps pi hc k0 k1 hb), none] (fun L A w => Sx.Own w0 w [(true, g2, (cond (L 13) (L60 gk gm gx ps pi hc k0 k1 hb) L6)), (true, g1, (L60 gk gm gx ps pi hc k0 k1 hb))] []) H.drew ?_ ?_
 ·refine ⟨?_, ?_, ?_, ?_, ?_, ?_, ?_, ?_, ?_, ?_, ?_, ?_, ?_, ?_, trivial⟩
  ·exact Sa
  ·exact SV (fun _ _ _ F H => Ld 1 one_3 F H)
  ·exact Sa
  ·exact SV (fun _ _ _ F H => Ld 1 one_22 F H)
  ·exact Sa
  ·exact SV (fun _ _ _ F H => Lr 1 [uN gx.a, uN gx.b, uN gx.c, uN gx.d] rw_24 F H)
  ·exact Sa
  ·exact SV (fun _ _ _ F H => Lr 1 [uH ps, uL ps, uH pi, uL pi] rw_28 F H)
  ·intro L A w up hun hd F H
   have f13 : L 13 = false := up 13 8 rfl hun
   rw [f13] at H
   refine step_on rfl (Dc if_27 F H (own10_c ps pi _)) ?_
   rintro xv w' ⟨hx, H⟩
   exact ⟨Cs hx, (by show Sx.Own _ _ _ _; rw [show Inv.add L 8 13 = false from f13]; exact H)⟩
  ·exact Sa
  ·exact SV (fun _ _ _ F H => Lr 1 (L53 hc k0 k1 hb) rw_33 F H)
  ·intro L A w up hun hd F H
   have f13 : L 13 = false := up 13 11 rfl hun
   rw [f13] at H
   refine step_on rfl (Dc if_28 F H (own12_c hc k0 k1 hb _)) ?_
   rintro xv w' ⟨hx, H⟩
   exact ⟨Cs hx, (by show Sx.Own _ _ _ _; rw [show Inv.add L 11 13 = false from f13]; exact H)⟩
  ·exact SV (fun _ _ _ F _ => d_build (qs := #[(0, iI gk), (1, uN gm), (2, (L9 gx)), (3, (L30 ps pi)), (4, (L52 hc k0 k1 hb))]) (v := (L58 gk gm gx ps pi hc k0 k1 hb)) F rfl rfl (by kernel_rfl))
  ·intro L A w up hun hd F H
   have f13 : L 13 = false := hun
   rw [f13] at H
   refine step_on rfl (d_store (i := 0) (xs := (L60 gk gm gx ps pi hc k0 k1 hb)) (us := (L60 gk gm gx ps pi hc k0 k1 hb)) sz_47 F H rfl rfl rfl rfl rfl rfl rfl (Nat.le_of_ble_eq_true rfl) rfl) ?_
   intro xv w' H
   exact ⟨Cn, H⟩
 ·intro L A w hL F H
  have t13 : L 13 = true := hL 13 rfl
  rw [t13] at H
  have F := F.tq [(2, pT g2 0)] rfl
  refine hK2 _ _ (wp_ret ?_)
  try dsimp only [Exit.then, Exit.inBlock, Exit.jump, Exit.noGoto]
  refine ret1 F Tryz.results8 (res_row (i := 0) (xs := [iI gk, uN gm, uN gx.a, uN gx.b, uN gx.c, uN gx.d, uH ps, uL ps, uH pi, uL pi, uH hc, uL hc, iW k0.toNat, iW k1.toNat, .bool hb]) rw_47 F H rfl rfl rfl rfl) ⟨?_, H.below⟩
  rfl
namespace Tj
theorem right_it {s : St} (h : Xj.right s = true) (n : Nat) : Xj.right (Xo.it n s) = true := by
  cases hq : Xj.right (Xo.it n s)
  · exact absurd ((Xo.it_ne n s).1 (Xj.right_eq hq)) (Xj.right_ne h)
  · rfl
theorem pow_add1 (c : BitVec 128) : ∀ k : Nat, Af.pow ⟨1#128, c⟩ k = ⟨1#128, BitVec.ofNat 128 k * c⟩
  | 0 => by show Af.one = _; unfold Af.one; congr 1; rw [show BitVec.ofNat 128 0 = 0#128 from rfl, BitVec.zero_mul]
  | k + 1 => by
    show Af.thn (Af.pow ⟨1#128, c⟩ k) ⟨1#128, c⟩ = _
    rw [pow_add1 c k]
    unfold Af.thn
    congr 1
    show 1#128 * (BitVec.ofNat 128 k * c) + c = BitVec.ofNat 128 (k + 1) * c
    rw [BitVec.one_mul, BitVec.ofNat_add, BitVec.add_mul, BitVec.one_mul]
theorem mix_eq (m : BitVec 64) (n : BitVec 128) : (((Mx.jump m (Wd.lo n)).toNat : Int) == ((Wd.lo ((Af.pow ⟨1#128, 11400714819323198485#128⟩ n.toNat).a * (Wd.mk 0#64 m) + (Af.pow ⟨1#128, 11400714819323198485#128⟩ n.toNat).c)).toNat : Int)) = true := by
  rw [pow_add1]
  show (_ == ((Wd.lo (1#128 * Wd.mk 0#64 m + BitVec.ofNat 128 n.toNat * 11400714819323198485#128)).toNat : Int)) = true
  rw [BitVec.one_mul, BitVec.ofNat_toNat, BitVec.setWidth_eq]
  rw [beq_iff_eq]
  congr 2
  show _ = (Wd.mk 0#64 m + n * 11400714819323198485#128).setWidth 64
  rw [BitVec.setWidth_add _ _ (by decide), BitVec.setWidth_mul _ _ (by decide)]
  rw [show (Wd.mk 0#64 m).setWidth 64 = m from Wd.lo_mk 0#64 m]
  rfl
theorem pcg_eq (s i n : BitVec 128) : Wd.eqb ((Pc.jump ⟨s, i⟩ n).s) ((Af.pow ⟨15750249268501108917#128, i⟩ n.toNat).a * s + (Af.pow ⟨15750249268501108917#128, i⟩ n.toNat).c) = true := eqb_self _
end Tj
namespace Hf
def bigA (c : BitVec 128) (b : Bool) : BitVec 129 := BitVec.ofNat 129 (2 * c.toNat + b.toNat)
def bigB (n : BitVec 128) : BitVec 129 := n.setWidth 129
theorem bigA_nat (c : BitVec 128) (b : Bool) : (bigA c b).toNat = 2 * c.toNat + b.toNat := by
  unfold bigA
  rw [BitVec.toNat_ofNat]; have := c.isLt; have := Bi.bl b; omega
theorem bigA_bit (c : BitVec 128) (b : Bool) (i : Nat) (hi : i < 129) : (bigA c b).getLsbD i = if i < 1 then b else c.getLsbD (i - 1) := by
  have hb := Bi.bl b
  rw [BitVec.getLsbD, bigA_nat]
  rcases i with _ | i
  · rw [if_pos (by decide), Nat.testBit_zero]
    cases b <;> simp <;> omega
  · rw [if_neg (by omega), Nat.testBit_succ, show (2 * c.toNat + b.toNat) / 2 = c.toNat from by omega]; rfl
theorem rowA (c : BitVec 128) (b : Bool) : [Value.int .i64 ((b.toNat : Nat) : Int)] ++ Bi.bis (BitVec.getLsbD c) 128 = Bi.bis (BitVec.getLsbD (bigA c b)) 129 := by
  have e := Bi.app (fun _ => b) (BitVec.getLsbD c) 1 128
  refine (show _ = Bi.bis (fun _ => b) 1 ++ _ from rfl).trans (e.trans ?_)
  exact Bi.congr (fun i hi => (bigA_bit c b i hi).symm)
theorem rowB (n : BitVec 128) : ([] ++ Bi.bis (BitVec.getLsbD n) 128) ++ [Value.int .i64 0] = Bi.bis (BitVec.getLsbD (bigB n)) 129 := by
  rw [List.nil_append, Bi.snoc (BitVec.getLsbD (bigB n)) 128]
  have h : (bigB n).getLsbD 128 = false := by unfold bigB; rw [BitVec.getLsbD_setWidth, BitVec.getLsbD_of_ge n 128 (by omega)]; simp
  rw [h, show Bi.bis (BitVec.getLsbD (bigB n)) 128 = Bi.bis (BitVec.getLsbD n) 128 from Bi.congr (fun i hi => ?_)]
  · rfl
  unfold bigB; rw [BitVec.getLsbD_setWidth, decide_eq_true (by omega : i < 129), Bool.true_and]
def sumf (c : BitVec 128) (b : Bool) (n : BitVec 128) : Nat → Bool := Bi.sumb (BitVec.getLsbD (bigA c b)) (BitVec.getLsbD (bigB n)) 129
def farb (c : BitVec 128) (b : Bool) (n : BitVec 128) (i : Nat) : Bool := (bigA c b + bigB n).getLsbD (1 + i)
theorem sum_at (c : BitVec 128) (b : Bool) (n : BitVec 128) (i : Nat) (hi : i < 129) : sumf c b n i = (bigA c b + bigB n).getLsbD i := by
  unfold sumf Bi.sumb; rw [if_pos hi, Bi.sb_eq _ _ _ hi]
theorem far_at (c : BitVec 128) (b : Bool) (n : BitVec 128) (i : Nat) (hi : i < 128) : sumf c b n (1 + i) = farb c b n i := sum_at c b n (1 + i) (by omega)
theorem far_nat (c : BitVec 128) (b : Bool) (n : BitVec 128) : (Bi.of (farb c b n) 128).toNat = (bigA c b + bigB n).toNat / 2 := by
  have e : Bi.of (farb c b n) 128 = ((bigA c b + bigB n) >>> 1).setWidth 128 := by
    refine Bi.of_eq _ _ _ (fun i hi => ?_)
    rw [BitVec.getLsbD_setWidth, BitVec.getLsbD_ushiftRight]; rfl
  rw [e, BitVec.toNat_setWidth, BitVec.toNat_ushiftRight, Nat.shiftRight_eq_div_pow]
  have := (bigA c b + bigB n).isLt
  omega
theorem bit0 (x : BitVec 129) : (x.getLsbD 0).toNat = x.toNat % 2 := by
  rw [BitVec.getLsbD, Nat.testBit_zero]
  rcases Nat.mod_two_eq_zero_or_one x.toNat with e | e <;> rw [e] <;> rfl
theorem is1 (b : Bool) : (((b.toNat : Nat) : Int) == 1) = b := by cases b <;> rfl
theorem far_eq (c : BitVec 128) (k0 k1 : BitVec 32) (b : Bool) (n : BitVec 128) : (⟨Bi.of (farb c b n) 128, k0, k1, (((sumf c b n 0).toNat : Nat) : Int) == 1⟩ : St) = jump ⟨c, k0, k1, b⟩ n := by
  rw [is1, sum_at c b n 0 (by omega)]
  refine st_ext (jump_k0 ⟨c, k0, k1, b⟩ n).symm (jump_k1 ⟨c, k0, k1, b⟩ n).symm ?_
  rw [jump_pos]
  unfold pos
  rw [far_nat, bit0, BitVec.toNat_add, bigA_nat]
  unfold bigB
  rw [BitVec.toNat_setWidth]
  have := n.isLt
  unfold R
  show 2 * ((2 * c.toNat + b.toNat + n.toNat % 2 ^ 129) % 2 ^ 129 / 2) + (2 * c.toNat + b.toNat + n.toNat % 2 ^ 129) % 2 ^ 129 % 2 = (2 * c.toNat + b.toNat + n.toNat) % 680564733841876926926749214863536422912
  omega
end Hf
theorem Bi.mul2 (g : Nat → Bool) (t : Nat) : BitVec.ofNat 64 (Bi.num g t) * 2#64 = BitVec.ofNat 64 (2 * Bi.num g t) := by
  apply BitVec.eq_of_toNat_eq
  rw [BitVec.toNat_mul, BitVec.toNat_ofNat, BitVec.toNat_ofNat, BitVec.toNat_ofNat]; omega
theorem Bi.add1 (g : Nat → Bool) (t : Nat) (b : Bool) (h : g (63 - t) = b) : BitVec.ofNat 64 (2 * Bi.num g t) + BitVec.ofNat 64 b.toNat = BitVec.ofNat 64 (Bi.num g (t + 1)) := by
  subst h
  apply BitVec.eq_of_toNat_eq
  rw [BitVec.toNat_add, BitVec.toNat_ofNat, BitVec.toNat_ofNat, BitVec.toNat_ofNat, show Bi.num g (t + 1) = 2 * Bi.num g t + (g (63 - t)).toNat from rfl]; omega
theorem Bi.i_mul2 {P : Program} {w : World} {x y : Operand} {T : TypeId} (g : Nat → Bool) (t : Nat) : (do eqGuard .mul T x y (.int .u64 (BitVec.ofNat 64 (Bi.num g t)).toNat) (.int .u64 2); binOp .mul T (.int .u64 (BitVec.ofNat 64 (Bi.num g t)).toNat) (.int .u64 2) : Sem Value).run P w = .ok (.int .u64 (BitVec.ofNat 64 (2 * Bi.num g t)).toNat) w := by
  have h := Sx.i_mul64 (P := P) (x := x) (y := y) (T := T) (w := w) (BitVec.ofNat 64 (Bi.num g t)) 2#64
  rw [Bi.mul2] at h; exact h
theorem Bi.i_add1 {P : Program} {w : World} {x y : Operand} {T : TypeId} (g : Nat → Bool) (t : Nat) (b : Bool) (hb : g (63 - t) = b) : (do eqGuard .add T x y (.int .u64 (BitVec.ofNat 64 (2 * Bi.num g t)).toNat) (.int .u64 (BitVec.ofNat 64 b.toNat).toNat); binOp .add T (.int .u64 (BitVec.ofNat 64 (2 * Bi.num g t)).toNat) (.int .u64 (BitVec.ofNat 64 b.toNat).toNat) : Sem Value).run P w = .ok (.int .u64 (BitVec.ofNat 64 (Bi.num g (t + 1))).toNat) w := by
  have h := Sx.i_add64 (P := P) (x := x) (y := y) (T := T) (w := w) (BitVec.ofNat 64 (2 * Bi.num g t)) (BitVec.ofNat 64 b.toNat)
  rw [Bi.add1 g t b hb] at h; exact h
open Sx in
theorem rword_s (f : Nat → Bool) (len : Nat) (hl : len ≤ 1000000) (ad : Option Addr) (cap fr : Nat) (hf : fr ≤ 1000000) (w0 : World) (hc : ∀ k, k < len → ∃ g o, ad = some ⟨g, o, none⟩ ∧ w0.cell? ⟨g, o + k, none⟩ = some (iI ((f k).toNat : Nat))) : Calls Tryz.prog 68 #[.slice ad len cap, iI fr] w0 fun e w' => e = .returned (uN (Bi.word (Bi.from_ f len fr))) ∧ Below w0.heap.size w0 w' := by
 refine En Tryz.func68 Tryz.ntmps68 fun A F => ?_
 have H := Sx.Own.start w0
 refine Sp fun _ kk => Av F fun A F => ?_
 refine Nl kk (Sp fun _ kk => Av F fun A F => ?_)
 refine Nl kk (Sx.seq fun K3 hK3 => Sp fun _ kk => Av F fun A F => ?_)
 refine Nl kk (wp_block (loop (fun q A w => ∃ t : Nat, q = 64 - t ∧ t ≤ 64 ∧ Fr 29 A [(0, .slice ad len cap), (1, iI fr), (5, uN (BitVec.ofNat 64 (Bi.num (Bi.from_ f len fr) t))), (6, iI (63 - (t : Int)))] ∧ Sx.Own w0 w [] []) 64 ⟨0, rfl, Nat.zero_le _, F.to ⟨rfl, rfl, rfl, rfl, trivial⟩, H⟩ ?_))
 rintro q A w ⟨t, rfl, ht, F, H⟩
 by_cases hlt : t < 64
 ·by_cases hin : fr + (63 - t) < len
  ·skip
   obtain ⟨g, o, had, hcell⟩ := hc _ hin
   have hb : (Bi.from_ f len fr) (63 - t) = f (fr + (63 - t)) := by unfold Bi.from_; rw [decide_eq_true hin, Bool.true_and]
   refine Sx.seq fun K5 hK5 => Sp fun _ kk => Av F fun A F => ?_
   refine Zv F (Bn bT F rfl rfl rfl (i_ge (decide_eq_true (by omega)))) fun A F => ?_
   refine Nl kk (condT F rfl (wp_skip (hK5 _ _ (Sx.seq fun K7 hK7 => wp_block (Sp fun _ kk => Av F fun A F => ?_)))))
   refine Zv F (Bn (uN (BitVec.ofNat 64 (2 * Bi.num (Bi.from_ f len fr) t))) F rfl rfl rfl (Bi.i_mul2 _ _)) fun A F => ?_
   refine Av F fun A F => ?_
   refine Nl kk (Sp fun _ kk => ?_)
   iterate 2 (refine Av F ?_; intro A F)
   refine Zv F (Bn (iI ((fr + (63 - t) : Nat) : Int)) F rfl rfl rfl (i_addS (by rw [in64 _ (by omega)]; omega))) fun A F => ?_
   refine Av F fun A F => ?_
   refine Zv F (d_lenS el_54 F rfl rfl) fun A F => ?_
   refine Zv F (Bn bT F rfl rfl rfl (i_lt (decide_eq_true (by omega)))) fun A F => ?_
   refine Nl kk (condT F rfl (Sx.plain ?_))
   iterate 4 (refine Av F ?_; intro A F)
   refine Zv F (Bn (iI ((fr + (63 - t) : Nat) : Int)) F rfl rfl rfl (i_addS (by rw [in64 _ (by omega)]; omega))) fun A F => ?_
   refine Zv F (d_ix1 (k := (fr + (63 - t))) (g := g) (off := o) el_54 F rfl rfl had rfl (rfl) (by omega)) fun A F => ?_
   refine Zv F (d_loadF one_3 F H rfl rfl hcell) fun A F => ?_
   refine Zv F (d_conv (v := uN (BitVec.ofNat 64 (f (fr + (63 - t))).toNat)) F rfl rfl (c_i64_u64 _ (by have := Bi.bl (f (fr + (63 - t))); omega))) fun A F => ?_
   refine Zv F (Bn (uN (BitVec.ofNat 64 (Bi.num (Bi.from_ f len fr) (t + 1)))) F rfl rfl rfl (Bi.i_add1 _ _ _ hb)) fun A F => ?_
   refine Av F fun A F => ?_
   refine Sx.nil (hK7 _ _ (Sx.plain ?_))
   refine Av F fun A F => ?_
   refine Zv F (Bn (iI (63 - ((t + 1 : Nat) : Int))) F rfl rfl rfl (i_subS (by rw [in64 _ (by omega)]; omega))) fun A F => ?_
   refine Av F fun A F => ?_
   refine Sx.nil ?_
   try dsimp only [Exit.then]
   exact ⟨64 - (t + 1), by omega, t + 1, rfl, by omega, F.to ⟨rfl, rfl, rfl, rfl, trivial⟩, H⟩
  ·skip
   refine Sx.seq fun K10 hK10 => Sp fun _ kk => Av F fun A F => ?_
   refine Zv F (Bn bT F rfl rfl rfl (i_ge (decide_eq_true (by omega)))) fun A F => ?_
   refine Nl kk (condT F rfl (wp_skip (hK10 _ _ (Sx.seq fun K12 hK12 => wp_block (Sp fun _ kk => Av F fun A F => ?_)))))
   refine Zv F (Bn (uN (BitVec.ofNat 64 (2 * Bi.num (Bi.from_ f len fr) t))) F rfl rfl rfl (Bi.i_mul2 _ _)) fun A F => ?_
   refine Av F fun A F => ?_
   refine Nl kk (Sp fun _ kk => ?_)
   iterate 2 (refine Av F ?_; intro A F)
   refine Zv F (Bn (iI ((fr + (63 - t) : Nat) : Int)) F rfl rfl rfl (i_addS (by rw [in64 _ (by omega)]; omega))) fun A F => ?_
   refine Av F fun A F => ?_
   refine Zv F (d_lenS el_54 F rfl rfl) fun A F => ?_
   refine Zv F (Bn bF F rfl rfl rfl (i_lt (decide_eq_false (by omega)))) fun A F => ?_
   refine Nl kk (condF F rfl (wp_skip (hK12 _ _ (Sx.plain ?_))))
   refine Av F fun A F => ?_
   refine Zv F (Bn (iI (63 - ((t + 1 : Nat) : Int))) F rfl rfl rfl (i_subS (by rw [in64 _ (by omega)]; omega))) fun A F => ?_
   refine Av F fun A F => ?_
   refine Sx.nil ?_
   try dsimp only [Exit.then]
   have e : 2 * Bi.num (Bi.from_ f len fr) t = Bi.num (Bi.from_ f len fr) (t + 1) := by show _ = 2 * Bi.num (Bi.from_ f len fr) t + ((Bi.from_ f len fr) (63 - t)).toNat; rw [show (Bi.from_ f len fr) (63 - t) = false from by unfold Bi.from_; rw [decide_eq_false hin, Bool.false_and]]; rfl
   rw [e] at F
   exact ⟨64 - (t + 1), by omega, t + 1, rfl, by omega, F.to ⟨rfl, rfl, rfl, rfl, trivial⟩, H⟩
 ·obtain rfl : t = 64 := by omega
  refine Sx.seq fun K15 hK15 => Sp fun _ kk => ?_
  iterate 2 (refine Av F ?_; intro A F)
  refine Nl kk (condF F rfl (wp_exit ?_))
  try dsimp only [Exit.then, Exit.jump]
  refine exit_here (hK3 _ _ (Sp fun _ kk => ?_))
  iterate 2 (refine Av F ?_; intro A F)
  refine Nl kk (wp_ret ?_)
  try dsimp only [Exit.then, Exit.inBlock, Exit.jump]
  refine ret1 F Tryz.results68 (res_tmp F rfl) ⟨?_, H.below⟩
  rfl
theorem rword_c (f : Nat → Bool) (v : Value) (fr : Nat) (hf : fr ≤ 1000000) {len : Nat} (w : World) (h : Bi.Rd w v f len) : Calls Tryz.prog 68 #[v, .int .i64 fr] w fun e w' => e = .returned (.int .u64 (Bi.word (Bi.from_ f len fr)).toNat) ∧ Below w.heap.size w w' := by
  obtain ⟨hl, ad, cap, rfl, hc⟩ := h
  exact rword_s f len hl ad cap fr hf w hc
open Sx in
theorem rof_c (f : Nat → Bool) (v : Value) (len : Nat) (w0 : World) (hR : Bi.Rd w0 v f len) : Calls Tryz.prog 39 #[v] w0 fun e w' => e = .returned (.agg #[uH (Bi.of f len), uL (Bi.of f len)]) ∧ Below w0.heap.size w0 w' := by
 refine En Tryz.func39 Tryz.ntmps39 fun A F => ?_
 have H := Sx.Own.start w0
 refine Sp fun _ kk => Zb F (d_alloc H rfl L1 zero_41) fun g1 A w F H => ?_
 refine Nl kk (Sp fun _ kk => Av F fun A F => ?_)
 refine Zw F (Dc if_68 F H (rword_c f _ 64 (by omega) _ (hR.below H.below))) fun A w F H => ?_
 refine Av F fun A F => ?_
 refine Zw F (Dc if_68 F H (rword_c f _ 0 (by omega) _ (hR.below H.below))) fun A w F H => ?_
 refine Zv F (d_build (qs := #[(0, uN (Bi.word (Bi.from_ f len 64))), (1, uN (Bi.word (Bi.from_ f len 0)))]) (v := .agg #[uH (Wd.mk (Bi.word (Bi.from_ f len 64)) (Bi.word (Bi.from_ f len 0))), uL (Wd.mk (Bi.word (Bi.from_ f len 64)) (Bi.word (Bi.from_ f len 0)))]) F rfl rfl (by unfold uH uL; rw [Wd.hi_mk, Wd.lo_mk]; kernel_rfl)) fun A F => ?_
 refine Zs 0 [uH (Wd.mk (Bi.word (Bi.from_ f len 64)) (Bi.word (Bi.from_ f len 0))), uL (Wd.mk (Bi.word (Bi.from_ f len 64)) (Bi.word (Bi.from_ f len 0)))] sz_41 F H fun A w F H => ?_
 refine Nl kk (wp_ret ?_)
 try dsimp only [Exit.then, Exit.inBlock, Exit.jump]
 refine ret1 F Tryz.results39 (res_row (i := 0) (xs := [uH (Wd.mk (Bi.word (Bi.from_ f len 64)) (Bi.word (Bi.from_ f len 0))), uL (Wd.mk (Bi.word (Bi.from_ f len 64)) (Bi.word (Bi.from_ f len 0)))]) rw_41 F H rfl rfl rfl rfl) ⟨?_, H.below⟩
 rfl
open Sx in
theorem rsum_s (f g : Nat → Bool) (m : Nat) (hm : m ≤ 1000) (ada adb : Option Addr) (capa capb : Nat) (w0 : World) (hca : ∀ k, k < m → ∃ b o, ada = some ⟨b, o, none⟩ ∧ w0.cell? ⟨b, o + k, none⟩ = some (iI ((f k).toNat : Nat))) (hcb : ∀ k, k < m → ∃ b o, adb = some ⟨b, o, none⟩ ∧ w0.cell? ⟨b, o + k, none⟩ = some (iI ((g k).toNat : Nat))) : Calls Tryz.prog 38 #[.slice ada m capa, .slice adb m capb] w0 fun e w' => ∃ v, e = .returned v ∧ w'.ownsRow w0.heap.size 3 1 v (m + 1) (Bi.bis (Bi.sumb f g m) (m + 1)) ∧ Below w0.heap.size w0 w' := by
 refine En Tryz.func38 Tryz.ntmps38 fun A F => ?_
 have H := Sx.Own.start w0
 refine Sp fun _ kk => Av F fun A F => ?_
 refine Nl kk (Sp fun _ kk => Zr (mk := fun v => v) F (d_litR (qs := #[]) (cs := #[]) (E := 3) (z := 1) F H rfl rfl (fun _ => by kernel_rfl) rfl (by decide)) fun v1 A w F H => ?_)
 refine Av F fun A F => ?_
 refine Nl kk (Sp fun _ kk => Av F fun A F => ?_)
 refine Nl kk (Sx.seq fun K4 hK4 => Sp fun _ kk => Av F fun A F => ?_)
 refine Nl kk (wp_block ?_)
 have F := F.tq [(0, .slice ada m capa), (1, .slice adb m capb), (5, v1), (6, iI ((Bi.car f g 0).toNat : Nat)), (7, iI (0 : Nat))] rfl
 refine loop (fun q A w => ∃ (i : Nat) (v : Value), q = m - i ∧ i ≤ m ∧ Fr 38 A [(0, .slice ada m capa), (1, .slice adb m capb), (5, v), (6, iI ((Bi.car f g i).toNat)), (7, iI i)] ∧ Sx.Own w0 w [] [⟨true, v, 3, 1, i, (Bi.bis (Bi.sb f g) i)⟩]) m ⟨0, v1, rfl, Nat.zero_le _, F, H⟩ ?_
 rintro q A w ⟨i, v, rfl, hi, F, H⟩
 by_cases hlt : i < m
 ·obtain ⟨ga, oa, hada, hcella⟩ := hca _ hlt
  obtain ⟨gb, ob, hadb, hcellb⟩ := hcb _ hlt
  have hs3 := Bi.s3_lt f g i
  refine Sx.seq fun K6 hK6 => Sp fun _ kk => ?_
  iterate 2 (refine Av F ?_; intro A F)
  refine Zv F (d_lenS el_54 F rfl rfl) fun A F => ?_
  refine Zv F (Bn bT F rfl rfl rfl (i_lt (decide_eq_true (by omega)))) fun A F => ?_
  refine Nl kk (condT F rfl (wp_skip (hK6 _ _ (Sx.seq fun K8 hK8 => wp_block (Sx.seq fun K9 hK9 => ?_)))))
  have F := F.tq [(0, .slice ada m capa), (1, .slice adb m capb), (5, v), (6, iI ((Bi.car f g i).toNat)), (7, iI i), (10, iI i), (11, .slice ada m capa), (12, iI m), (13, bT)] rfl
  refine Dn F [some (.slice ada m capa), some (iI i), some (.pointer (some ⟨ga, oa + i, none⟩)), some (iI ((f i).toNat)), some (.slice adb m capb), some (iI i), some (.pointer (some ⟨gb, ob + i, none⟩)), some (iI ((g i).toNat)), some (iI (Bi.s2 f g i)), some (iI ((Bi.car f g i).toNat)), some (iI (Bi.s3 f g i)), some (iI (Bi.s3 f g i))] (fun L A w => Sx.Own w0 w [] [⟨true, v, 3, 1, i, (Bi.bis (Bi.sb f g) i)⟩]) H.drew ?_ ?_
  ·refine ⟨?_, ?_, ?_, ?_, ?_, ?_, ?_, ?_, ?_, ?_, ?_, ?_, trivial⟩
   ·exact Sa
   ·exact Sa
   ·exact SV (fun _ _ _ F _ => d_ix1 (k := i) (g := ga) (off := oa) el_54 F rfl rfl hada rfl (rfl) (by omega))
   ·intro L A w up hun hd F H
    refine step_on rfl (d_loadF one_3 F H rfl rfl hcella) ?_
    rintro xv w' ⟨hx, rfl⟩
    exact ⟨Cs hx, H⟩
   ·exact Sa
   ·exact Sa
   ·exact SV (fun _ _ _ F _ => d_ix1 (k := i) (g := gb) (off := ob) el_54 F rfl rfl hadb rfl (rfl) (by omega))
   ·intro L A w up hun hd F H
    refine step_on rfl (d_loadF one_3 F H rfl rfl hcellb) ?_
    rintro xv w' ⟨hx, rfl⟩
    exact ⟨Cs hx, H⟩
   ·exact SV (fun _ _ _ F _ => Bn (iI (Bi.s2 f g i)) F rfl rfl rfl (i_addN rfl (in_i64 _ (by have := Bi.s2_lt f g i; omega))))
   ·exact Sa
   ·exact SV (fun _ _ _ F _ => Bn (iI (Bi.s3 f g i)) F rfl rfl rfl (i_addN rfl (in_i64 _ (by omega))))
   ·exact Sa
  ·intro L A w hL F H
   have F := F.tq [(0, .slice ada m capa), (1, .slice adb m capb), (5, v), (6, iI ((Bi.car f g i).toNat)), (7, iI i), (10, iI i), (11, .slice ada m capa), (12, iI m), (13, bT), (8, iI (Bi.s3 f g i))] rfl
   refine hK9 _ _ (Sp fun _ kk => ?_)
   iterate 2 (refine Av F ?_; intro A F)
   refine Zv F (Bn (iI ((Bi.sb f g i).toNat)) F rfl rfl rfl (i_rem (Bi.s3_rem f g i) (by decide))) fun A F => ?_
   refine Zg (mk := fun g => sL g 0 1 1) F (d_lit (qs := #[(0, iI ((Bi.sb f g i).toNat))]) (cs := #[iI ((Bi.sb f g i).toNat)]) (E := 3) F H rfl rfl (fun _ => by kernel_rfl)) fun g1 A w F H => ?_
   refine Zr (mk := fun v => v) F (d_append (i := 0) (j := 0) el_54 F H rfl rfl rfl rfl rfl rfl rfl rfl (by omega) (by decide)) fun v2 A w F H => ?_
   refine Av F fun A F => ?_
   refine Nl kk (Sx.plain ?_)
   refine Av F fun A F => ?_
   refine Zv F (Bn (iI ((Bi.car f g (i + 1)).toNat)) F rfl rfl rfl (i_quoN (Bi.s3_quo f g i) (by decide) (in_i64 _ (by have := Bi.bl (Bi.car f g (i + 1)); omega)))) fun A F => ?_
   refine Av F fun A F => ?_
   refine Sx.nil (hK8 _ _ (Sx.plain ?_))
   refine Av F fun A F => ?_
   refine Zv F (Bn (iI (i + 1 : Nat)) F rfl rfl rfl (i_addN rfl (in_i64 _ (by omega)))) fun A F => ?_
   refine Av F fun A F => ?_
   refine Sx.nil ?_
   try dsimp only [Exit.then]
   exact ⟨m - (i + 1), by omega, i + 1, v2, rfl, by omega, F.to ⟨rfl, rfl, rfl, rfl, rfl, trivial⟩, by rw [Bi.snoc]; exact H.to' [] [0] (by decide) (by decide) rfl rfl⟩
 ·obtain rfl : i = m := by omega
  refine Sx.seq fun K11 hK11 => Sp fun _ kk => ?_
  iterate 2 (refine Av F ?_; intro A F)
  refine Zv F (d_lenS el_54 F rfl rfl) fun A F => ?_
  refine Zv F (Bn bF F rfl rfl rfl (i_lt (by simp))) fun A F => ?_
  refine Nl kk (condF F rfl (wp_exit ?_))
  try dsimp only [Exit.then, Exit.jump]
  refine exit_here (hK4 _ _ (Sp fun _ kk => ?_))
  iterate 2 (refine Av F ?_; intro A F)
  refine Zg (mk := fun g => sL g 0 1 1) F (d_lit (qs := #[(0, iI ((Bi.car f g i).toNat))]) (cs := #[iI ((Bi.car f g i).toNat)]) (E := 3) F H rfl rfl (fun _ => by kernel_rfl)) fun g2 A w F H => ?_
  refine Zr (mk := fun v => v) F (d_append (i := 0) (j := 0) el_54 F H rfl rfl rfl rfl rfl rfl rfl rfl (by omega) (by decide)) fun v3 A w F H => ?_
  refine Av F fun A F => ?_
  refine Nl kk (wp_ret ?_)
  try dsimp only [Exit.then, Exit.inBlock, Exit.jump]
  refine ret1 F Tryz.results38 (res_tmp F rfl) ?_
  exact ⟨_, rfl, rowEq (H.row 0 _ rfl rfl) rfl rfl rfl rfl (Bi.sum_row f g _), H.below⟩
theorem rsum_c (f g : Nat → Bool) (va vb : Value) {m : Nat} (hm : m ≤ 1000) (w : World) (ha : Bi.Rd w va f m) (hb : Bi.Rd w vb g m) : Calls Tryz.prog 38 #[va, vb] w fun e w' => ∃ v, e = .returned v ∧ w'.ownsRow w.heap.size 3 1 v (m + 1) (Bi.bis (Bi.sumb f g m) (m + 1)) ∧ Below w.heap.size w w' := by
  obtain ⟨hl, ada, capa, rfl, hca⟩ := ha
  obtain ⟨_, adb, capb, rfl, hcb⟩ := hb
  exact rsum_s f g m hm ada adb capa capb w hca hcb
end Go.Proofs.YteecadoakmdibaaGreat
