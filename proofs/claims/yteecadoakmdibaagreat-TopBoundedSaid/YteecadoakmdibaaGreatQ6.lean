/- What the proof of TopBounded leans on: part 6. -/
import Derived.Test.YteecadoakmdibaaGreatQ1
import Derived.Test.YteecadoakmdibaaGreatQ2
import Derived.Test.YteecadoakmdibaaGreatQ4
import Derived.Test.YteecadoakmdibaaGreatQ5
import Derived.MapKept
import Derived.ChangeMaps5
import Derived.Deep.RegionHeld3
set_option maxRecDepth 100000
set_option maxHeartbeats 4000000
namespace Go.Proofs.YteecadoakmdibaaGreat
open Go Go.RowKit
abbrev L28 (x0 : BitVec 128) : Value := .agg #[uH (x0 + 1#128), uL (x0 + 1#128)]
abbrev L29 (x0 : BitVec 128) : Value := .tuple #[.agg #[uH (x0 + 1#128), uL (x0 + 1#128)], .bool (Wd.over x0 1#128)]
open Sx in
theorem hstep_t (hc : BitVec 128) (k0 k1 : BitVec 32) (w0 : World) : Calls Tryz.prog 268 #[.agg #[uH hc, uL hc, iW k0.toNat, iW k1.toNat, bT]] w0 fun e w' => e = .returned (.agg #[uH (hc + 1#128), uL (hc + 1#128), iW k0.toNat, iW k1.toNat, bF]) ∧ Below w0.heap.size w0 w' := by
 refine En Tryz.func268 Tryz.ntmps268 fun A F => ?_
 have H := Sx.Own.start w0
 refine Sp fun _ kk => Zb F (d_box F H rfl rfl [uH hc, uL hc, iW k0.toNat, iW k1.toNat, bT] rfl) fun g1 A w F H => ?_
 refine Zb F (d_alloc H rfl L5 zero_33) fun g2 A w F H => ?_
 refine Nl kk (Sx.seq fun K2 hK2 => Sp fun _ kk => ?_)
 iterate 2 (refine Av F ?_; intro A F)
 refine Nl kk (condT F rfl ?_)
 have F := F.tq [(0, .agg #[uH hc, uL hc, iW k0.toNat, iW k1.toNat, bT]), (1, pT g1 0), (2, pT g2 0), (3, pT g1 4), (4, bT)] rfl
 refine Dn F [some (pT g1 0), some (.agg #[uH hc, uL hc]), some (L17), some (L29 hc), some (L29 hc), some (L28 hc), some (.bool (Wd.over hc 1#128)), some (pT g1 0), none] (fun L A w => Sx.Own w0 w [(true, g2, L5), (true, g1, (cond (L 8) [uH (hc + 1#128), uL (hc + 1#128), iW k0.toNat, iW k1.toNat, bT] [uH hc, uL hc, iW k0.toNat, iW k1.toNat, bT]))] []) H.drew ?_ ?_
 ·refine ⟨?_, ?_, ?_, ?_, ?_, ?_, ?_, ?_, ?_, trivial⟩
  ·exact Sa
  ·intro L A w up hun hd F H
   have f8 : L 8 = false := up 8 1 rfl hun
   have Hj := H; rw [f8] at Hj
   refine step_on rfl (Lr 1 [uH hc, uL hc] rw_26 F Hj) ?_
   rintro xv w' ⟨hx, rfl⟩
   exact ⟨Cs hx, H⟩
  ·intro L A w up hun hd F H
   have f8 : L 8 = false := up 8 2 rfl hun
   rw [f8] at H
   refine step_on rfl (d_call (vs := [iU 1]) (v := L17) if_15 F H rfl rfl (Calls.val (wofV_c 1#64 _) (by kernel_rfl) (by kernel_rfl))) ?_
   rintro xv w' ⟨hx, H⟩
   exact ⟨Cs hx, (by show Sx.Own _ _ _ _; rw [show Inv.add L 2 8 = false from f8]; exact H)⟩
  ·intro L A w up hun hd F H
   have f8 : L 8 = false := up 8 3 rfl hun
   rw [f8] at H
   refine step_on rfl (Dc if_14 F H (wadd_c hc 1#128 _)) ?_
   rintro xv w' ⟨hx, H⟩
   exact ⟨Cs hx, (by show Sx.Own _ _ _ _; rw [show Inv.add L 3 8 = false from f8]; exact H)⟩
  ·exact Sa
  ·exact Sa
  ·exact Sa
  ·exact Sa
  ·intro L A w up hun hd F H
   have f8 : L 8 = false := hun
   rw [f8] at H
   refine step_on rfl (d_store (i := 1) (xs := [uH (hc + 1#128), uL (hc + 1#128)]) (us := [uH (hc + 1#128), uL (hc + 1#128), iW k0.toNat, iW k1.toNat, bT]) sz_26 F H rfl rfl rfl rfl rfl rfl rfl (Nat.le_of_ble_eq_true rfl) rfl) ?_
   intro xv w' H
   exact ⟨Cn, H⟩
 ·intro L A w hL F H
  have t8 : L 8 = true := hL 8 rfl
  rw [t8] at H
  have F := F.tq [(1, pT g1 0), (2, pT g2 0)] rfl
  refine hK2 _ _ (Sp fun _ kk => ?_)
  iterate 2 (refine Av F ?_; intro A F)
  refine Zv F (d_un (v := bF) F rfl rfl rfl) fun A F => ?_
  refine Av F fun A F => ?_
  refine Zs 1 [uH (hc + 1#128), uL (hc + 1#128), iW k0.toNat, iW k1.toNat, bF] sz_4 F H fun A w F H => ?_
  refine Nl kk (Sp fun _ kk => Av F fun A F => ?_)
  refine Zs 0 [uH (hc + 1#128), uL (hc + 1#128), iW k0.toNat, iW k1.toNat, bF] sz_33 F H fun A w F H => ?_
  refine Nl kk ?_
  refine Wr (ret1 F Tryz.results268 (res_row (i := 0) (xs := [uH (hc + 1#128), uL (hc + 1#128), iW k0.toNat, iW k1.toNat, bF]) rw_33 F H rfl rfl rfl rfl) (An ?_ H.below))
  rfl
open Sx in
theorem hstep_f (hc : BitVec 128) (k0 k1 : BitVec 32) (w0 : World) : Calls Tryz.prog 268 #[.agg #[uH hc, uL hc, iW k0.toNat, iW k1.toNat, bF]] w0 fun e w' => e = .returned (.agg #[uH hc, uL hc, iW k0.toNat, iW k1.toNat, bT]) ∧ Below w0.heap.size w0 w' := by
 refine En Tryz.func268 Tryz.ntmps268 fun A F => ?_
 have H := Sx.Own.start w0
 refine Sp fun _ kk => Zb F (d_box F H rfl rfl [uH hc, uL hc, iW k0.toNat, iW k1.toNat, bF] rfl) fun g1 A w F H => ?_
 refine Zb F (d_alloc H rfl L5 zero_33) fun g2 A w F H => ?_
 refine Nl kk (Sx.seq fun K2 hK2 => Sp fun _ kk => ?_)
 iterate 2 (refine Av F ?_; intro A F)
 refine Nl kk (condF F rfl (wp_skip (hK2 _ _ (Sp fun _ kk => ?_))))
 iterate 2 (refine Av F ?_; intro A F)
 refine Zv F (d_un (v := bT) F rfl rfl rfl) fun A F => ?_
 refine Av F fun A F => ?_
 refine Zs 1 [uH hc, uL hc, iW k0.toNat, iW k1.toNat, bT] sz_4 F H fun A w F H => ?_
 refine Nl kk (Sp fun _ kk => Av F fun A F => ?_)
 refine Zs 0 [uH hc, uL hc, iW k0.toNat, iW k1.toNat, bT] sz_33 F H fun A w F H => ?_
 refine Nl kk ?_
 refine Wr (ret1 F Tryz.results268 (res_row (i := 0) (xs := [uH hc, uL hc, iW k0.toNat, iW k1.toNat, bT]) rw_33 F H rfl rfl rfl rfl) (An ?_ H.below))
 rfl
theorem hstep_c (c : BitVec 128) (k0 k1 : BitVec 32) (b : Bool) (w : World) : Calls Tryz.prog 268 #[.agg #[.int .u64 (Wd.hi c).toNat, .int .u64 (Wd.lo c).toNat, .int .u32 k0.toNat, .int .u32 k1.toNat, .bool b]] w fun e w' => e = .returned (.agg #[.int .u64 (Wd.hi (Hf.step ⟨c, k0, k1, b⟩).c).toNat, .int .u64 (Wd.lo (Hf.step ⟨c, k0, k1, b⟩).c).toNat, .int .u32 (Hf.step ⟨c, k0, k1, b⟩).k0.toNat, .int .u32 (Hf.step ⟨c, k0, k1, b⟩).k1.toNat, .bool (Hf.step ⟨c, k0, k1, b⟩).b]) ∧ Below w.heap.size w w' := by
  cases b
  · exact hstep_f c k0 k1 w
  · exact hstep_t c k0 k1 w
theorem Wd.bit0 (n : BitVec 128) : Wd.bit n 0 = (Hf.odd n).toNat := rfl
theorem Hf.bit1 {n : BitVec 128} {b : Bool} (h : Hf.odd n = b) : (((Wd.bit n 0 : Nat) : Int) == 1) = b := by rw [Wd.bit0, h]; cases b <;> rfl
abbrev L30 (x0 : BitVec 128) (x1 x2 : BitVec 32) (x3 : Bool) : Value := .agg #[uH x0, uL x0, iW x1.toNat, iW x2.toNat, .bool x3]
abbrev L31 (x0 : BitVec 128) (x1 x2 : BitVec 32) (x3 : Bool) : List Value := [uH x0, uL x0, iW x1.toNat, iW x2.toNat, .bool x3]
open Sx in
theorem hjump_e (hc : BitVec 128) (k0 k1 : BitVec 32) (hb : Bool) (n : BitVec 128) (ho : Hf.odd n = false) (w0 : World) : Calls Tryz.prog 267 #[(L30 hc k0 k1 hb), .agg #[uH n, uL n]] w0 fun e w' => e = .returned (.agg #[uH (hc + n >>> 1), uL (hc + n >>> 1), iW k0.toNat, iW k1.toNat, .bool hb]) ∧ Below w0.heap.size w0 w' := by
 refine En Tryz.func267 Tryz.ntmps267 fun A F => ?_
 have H := Sx.Own.start w0
 refine Sp fun _ kk => Zb F (d_box F H rfl rfl (L31 hc k0 k1 hb) rfl) fun g1 A w F H => ?_
 refine Zb F (d_box F H rfl rfl [uH n, uL n] rfl) fun g2 A w F H => ?_
 refine Zb F (d_alloc H rfl L5 zero_33) fun g3 A w F H => ?_
 refine Nl kk (Sx.seq fun K2 hK2 => Sp fun _ kk => Av F fun A F => ?_)
 refine Zw F (Dc if_232 F H (wbit_c n 0 (by omega) _)) fun A w F H => ?_
 refine Zv F (Bn bF F rfl rfl rfl (i_eq (Hf.bit1 ho))) fun A F => ?_
 refine Nl kk (condF F rfl (wp_skip (hK2 _ _ (Sx.seq fun K4 hK4 => ?_))))
 have F := F.tq [(0, (L30 hc k0 k1 hb)), (1, .agg #[uH n, uL n]), (2, pT g1 0), (3, pT g2 0), (4, pT g3 0), (5, .agg #[uH n, uL n]), (6, iI (Wd.bit n 0)), (7, bF)] rfl
 refine Dn F [some (pT g1 0), some (.agg #[uH hc, uL hc]), some (.agg #[uH n, uL n]), some (.agg #[uH (n >>> 1), uL (n >>> 1)]), some (.tuple #[.agg #[uH (hc + (n >>> 1)), uL (hc + (n >>> 1))], .bool (Wd.over hc (n >>> 1))]), some (.tuple #[.agg #[uH (hc + (n >>> 1)), uL (hc + (n >>> 1))], .bool (Wd.over hc (n >>> 1))]), some (.agg #[uH (hc + (n >>> 1)), uL (hc + (n >>> 1))]), some (.bool (Wd.over hc (n >>> 1))), some (pT g1 0), none] (fun L A w => Sx.Own w0 w [(true, g3, L5), (true, g2, [uH n, uL n]), (true, g1, (cond (L 9) [uH (hc + (n >>> 1)), uL (hc + (n >>> 1)), iW k0.toNat, iW k1.toNat, .bool hb] (L31 hc k0 k1 hb)))] []) H.drew ?_ ?_
 ·refine ⟨?_, ?_, ?_, ?_, ?_, ?_, ?_, ?_, ?_, ?_, trivial⟩
  ·exact Sa
  ·intro L A w up hun hd F H
   have f9 : L 9 = false := up 9 1 rfl hun
   have Hj := H; rw [f9] at Hj
   refine step_on rfl (Lr 2 [uH hc, uL hc] rw_26 F Hj) ?_
   rintro xv w' ⟨hx, rfl⟩
   exact ⟨Cs hx, H⟩
  ·exact SV (fun _ _ _ F H => Lr 1 [uH n, uL n] rw_26 F H)
  ·intro L A w up hun hd F H
   have f9 : L 9 = false := up 9 3 rfl hun
   rw [f9] at H
   refine step_on rfl (Dc if_125 F H (wrightN_c n 1 (by omega) _)) ?_
   rintro xv w' ⟨hx, H⟩
   exact ⟨Cs hx, (by show Sx.Own _ _ _ _; rw [show Inv.add L 3 9 = false from f9]; exact H)⟩
  ·intro L A w up hun hd F H
   have f9 : L 9 = false := up 9 4 rfl hun
   rw [f9] at H
   refine step_on rfl (Dc if_14 F H (wadd_c hc (n >>> 1) _)) ?_
   rintro xv w' ⟨hx, H⟩
   exact ⟨Cs hx, (by show Sx.Own _ _ _ _; rw [show Inv.add L 4 9 = false from f9]; exact H)⟩
  ·exact Sa
  ·exact Sa
  ·exact Sa
  ·exact Sa
  ·intro L A w up hun hd F H
   have f9 : L 9 = false := hun
   rw [f9] at H
   refine step_on rfl (d_store (i := 2) (xs := [uH (hc + (n >>> 1)), uL (hc + (n >>> 1))]) (us := [uH (hc + (n >>> 1)), uL (hc + (n >>> 1)), iW k0.toNat, iW k1.toNat, .bool hb]) sz_26 F H rfl rfl rfl rfl rfl rfl rfl (Nat.le_of_ble_eq_true rfl) rfl) ?_
   intro xv w' H
   exact ⟨Cn, H⟩
 ·intro L A w hL F H
  have t9 : L 9 = true := hL 9 rfl
  rw [t9] at H
  have F := F.tq [(2, pT g1 0), (4, pT g3 0)] rfl
  refine hK4 _ _ (Sp fun _ kk => Av F fun A F => ?_)
  refine Zs 0 [uH (hc + (n >>> 1)), uL (hc + (n >>> 1)), iW k0.toNat, iW k1.toNat, .bool hb] sz_33 F H fun A w F H => ?_
  refine Nl kk ?_
  refine Wr (ret1 F Tryz.results267 (res_row (i := 0) (xs := [uH (hc + (n >>> 1)), uL (hc + (n >>> 1)), iW k0.toNat, iW k1.toNat, .bool hb]) rw_33 F H rfl rfl rfl rfl) (An ?_ H.below))
  rfl
abbrev L32 (x0 : BitVec 128) (x1 x2 : BitVec 32) (x3 : Bool) : List Value := [uH ((Hf.step ⟨x0, x1, x2, x3⟩).c), uL ((Hf.step ⟨x0, x1, x2, x3⟩).c), iW (((Hf.step ⟨x0, x1, x2, x3⟩).k0).toNat), iW (((Hf.step ⟨x0, x1, x2, x3⟩).k1).toNat), .bool ((Hf.step ⟨x0, x1, x2, x3⟩).b)]
abbrev L33 (x0 : BitVec 128) (x1 x2 : BitVec 32) (x3 : Bool) : Value := .agg #[uH ((Hf.step ⟨x0, x1, x2, x3⟩).c), uL ((Hf.step ⟨x0, x1, x2, x3⟩).c), iW (((Hf.step ⟨x0, x1, x2, x3⟩).k0).toNat), iW (((Hf.step ⟨x0, x1, x2, x3⟩).k1).toNat), .bool ((Hf.step ⟨x0, x1, x2, x3⟩).b)]
abbrev L34 (x0 : BitVec 128) (x1 x2 : BitVec 32) (x3 : Bool) (x4 : BitVec 128) : Value := .agg #[uH (((Hf.step ⟨x0, x1, x2, x3⟩).c) + (x4 >>> 1)), uL (((Hf.step ⟨x0, x1, x2, x3⟩).c) + (x4 >>> 1))]
abbrev L35 (x0 : BitVec 128) (x1 x2 : BitVec 32) (x3 : Bool) (x4 : BitVec 128) : Value := .tuple #[.agg #[uH (((Hf.step ⟨x0, x1, x2, x3⟩).c) + (x4 >>> 1)), uL (((Hf.step ⟨x0, x1, x2, x3⟩).c) + (x4 >>> 1))], .bool (Wd.over ((Hf.step ⟨x0, x1, x2, x3⟩).c) (x4 >>> 1))]
abbrev L36 (x0 : BitVec 128) (x1 x2 : BitVec 32) (x3 : Bool) (x4 : BitVec 128) : List Value := [uH (((Hf.step ⟨x0, x1, x2, x3⟩).c) + (x4 >>> 1)), uL (((Hf.step ⟨x0, x1, x2, x3⟩).c) + (x4 >>> 1)), iW (((Hf.step ⟨x0, x1, x2, x3⟩).k0).toNat), iW (((Hf.step ⟨x0, x1, x2, x3⟩).k1).toNat), .bool ((Hf.step ⟨x0, x1, x2, x3⟩).b)]
open Sx in
theorem hjump_o (hc : BitVec 128) (k0 k1 : BitVec 32) (hb : Bool) (n : BitVec 128) (ho : Hf.odd n = true) (w0 : World) : Calls Tryz.prog 267 #[(L30 hc k0 k1 hb), .agg #[uH n, uL n]] w0 fun e w' => e = .returned (.agg #[uH ((({ Hf.step ⟨hc, k0, k1, hb⟩ with c := (Hf.step ⟨hc, k0, k1, hb⟩).c + n >>> 1 } : Hf.St)).c), uL ((({ Hf.step ⟨hc, k0, k1, hb⟩ with c := (Hf.step ⟨hc, k0, k1, hb⟩).c + n >>> 1 } : Hf.St)).c), iW (((({ Hf.step ⟨hc, k0, k1, hb⟩ with c := (Hf.step ⟨hc, k0, k1, hb⟩).c + n >>> 1 } : Hf.St)).k0).toNat), iW (((({ Hf.step ⟨hc, k0, k1, hb⟩ with c := (Hf.step ⟨hc, k0, k1, hb⟩).c + n >>> 1 } : Hf.St)).k1).toNat), .bool ((({ Hf.step ⟨hc, k0, k1, hb⟩ with c := (Hf.step ⟨hc, k0, k1, hb⟩).c + n >>> 1 } : Hf.St)).b)]) ∧ Below w0.heap.size w0 w' := by
 refine En Tryz.func267 Tryz.ntmps267 fun A F => ?_
 have H := Sx.Own.start w0
 refine Sp fun _ kk => Zb F (d_box F H rfl rfl (L31 hc k0 k1 hb) rfl) fun g1 A w F H => ?_
 refine Zb F (d_box F H rfl rfl [uH n, uL n] rfl) fun g2 A w F H => ?_
 refine Zb F (d_alloc H rfl L5 zero_33) fun g3 A w F H => ?_
 refine Nl kk (Sx.seq fun K2 hK2 => Sp fun _ kk => Av F fun A F => ?_)
 refine Zw F (Dc if_232 F H (wbit_c n 0 (by omega) _)) fun A w F H => ?_
 refine Zv F (Bn bT F rfl rfl rfl (i_eq (Hf.bit1 ho))) fun A F => ?_
 refine Nl kk (condT F rfl (Sx.plain ?_))
 refine Av F fun A F => ?_
 refine Zw F (Dc if_268 F H (hstep_c hc k0 k1 hb _)) fun A w F H => ?_
 refine Zs 2 (L32 hc k0 k1 hb) sz_33 F H fun A w F H => ?_
 refine Sx.nil (hK2 _ _ (Sx.seq fun K4 hK4 => ?_))
 have F := F.tq [(0, (L30 hc k0 k1 hb)), (1, .agg #[uH n, uL n]), (2, pT g1 0), (3, pT g2 0), (4, pT g3 0), (5, .agg #[uH n, uL n]), (6, iI (Wd.bit n 0)), (7, bT), (8, (L30 hc k0 k1 hb)), (9, (L33 hc k0 k1 hb))] rfl
 refine Dn F [some (pT g1 0), some (.agg #[uH ((Hf.step ⟨hc, k0, k1, hb⟩).c), uL ((Hf.step ⟨hc, k0, k1, hb⟩).c)]), some (.agg #[uH n, uL n]), some (.agg #[uH (n >>> 1), uL (n >>> 1)]), some (L35 hc k0 k1 hb n), some (L35 hc k0 k1 hb n), some (L34 hc k0 k1 hb n), some (.bool (Wd.over ((Hf.step ⟨hc, k0, k1, hb⟩).c) (n >>> 1))), some (pT g1 0), none] (fun L A w => Sx.Own w0 w [(true, g3, L5), (true, g2, [uH n, uL n]), (true, g1, (cond (L 9) (L36 hc k0 k1 hb n) (L32 hc k0 k1 hb)))] []) H.drew ?_ ?_
 ·refine ⟨?_, ?_, ?_, ?_, ?_, ?_, ?_, ?_, ?_, ?_, trivial⟩
  ·exact Sa
  ·intro L A w up hun hd F H
   have f9 : L 9 = false := up 9 1 rfl hun
   have Hj := H; rw [f9] at Hj
   refine step_on rfl (Lr 2 [uH ((Hf.step ⟨hc, k0, k1, hb⟩).c), uL ((Hf.step ⟨hc, k0, k1, hb⟩).c)] rw_26 F Hj) ?_
   rintro xv w' ⟨hx, rfl⟩
   exact ⟨Cs hx, H⟩
  ·exact SV (fun _ _ _ F H => Lr 1 [uH n, uL n] rw_26 F H)
  ·intro L A w up hun hd F H
   have f9 : L 9 = false := up 9 3 rfl hun
   rw [f9] at H
   refine step_on rfl (Dc if_125 F H (wrightN_c n 1 (by omega) _)) ?_
   rintro xv w' ⟨hx, H⟩
   exact ⟨Cs hx, (by show Sx.Own _ _ _ _; rw [show Inv.add L 3 9 = false from f9]; exact H)⟩
  ·intro L A w up hun hd F H
   have f9 : L 9 = false := up 9 4 rfl hun
   rw [f9] at H
   refine step_on rfl (Dc if_14 F H (wadd_c ((Hf.step ⟨hc, k0, k1, hb⟩).c) (n >>> 1) _)) ?_
   rintro xv w' ⟨hx, H⟩
   exact ⟨Cs hx, (by show Sx.Own _ _ _ _; rw [show Inv.add L 4 9 = false from f9]; exact H)⟩
  ·exact Sa
  ·exact Sa
  ·exact Sa
  ·exact Sa
  ·intro L A w up hun hd F H
   have f9 : L 9 = false := hun
   rw [f9] at H
   refine step_on rfl (d_store (i := 2) (xs := [uH (((Hf.step ⟨hc, k0, k1, hb⟩).c) + (n >>> 1)), uL (((Hf.step ⟨hc, k0, k1, hb⟩).c) + (n >>> 1))]) (us := (L36 hc k0 k1 hb n)) sz_26 F H rfl rfl rfl rfl rfl rfl rfl (Nat.le_of_ble_eq_true rfl) rfl) ?_
   intro xv w' H
   exact ⟨Cn, H⟩
 ·intro L A w hL F H
  have t9 : L 9 = true := hL 9 rfl
  rw [t9] at H
  have F := F.tq [(2, pT g1 0), (4, pT g3 0)] rfl
  refine hK4 _ _ (Sp fun _ kk => Av F fun A F => ?_)
  refine Zs 0 (L36 hc k0 k1 hb n) sz_33 F H fun A w F H => ?_
  refine Nl kk ?_
  refine Wr (ret1 F Tryz.results267 (res_row (i := 0) (xs := [uH (((Hf.step ⟨hc, k0, k1, hb⟩).c) + (n >>> 1)), uL (((Hf.step ⟨hc, k0, k1, hb⟩).c) + (n >>> 1)), iW (((Hf.step ⟨hc, k0, k1, hb⟩).k0).toNat), iW (((Hf.step ⟨hc, k0, k1, hb⟩).k1).toNat), .bool ((Hf.step ⟨hc, k0, k1, hb⟩).b)]) rw_33 F H rfl rfl rfl rfl) (An ?_ H.below))
  rfl
theorem hjump_c (c : BitVec 128) (k0 k1 : BitVec 32) (b : Bool) (n : BitVec 128) (w : World) : Calls Tryz.prog 267 #[.agg #[.int .u64 (Wd.hi c).toNat, .int .u64 (Wd.lo c).toNat, .int .u32 k0.toNat, .int .u32 k1.toNat, .bool b], .agg #[.int .u64 (Wd.hi n).toNat, .int .u64 (Wd.lo n).toNat]] w fun e w' => e = .returned (.agg #[.int .u64 (Wd.hi (Hf.jump ⟨c, k0, k1, b⟩ n).c).toNat, .int .u64 (Wd.lo (Hf.jump ⟨c, k0, k1, b⟩ n).c).toNat, .int .u32 (Hf.jump ⟨c, k0, k1, b⟩ n).k0.toNat, .int .u32 (Hf.jump ⟨c, k0, k1, b⟩ n).k1.toNat, .bool (Hf.jump ⟨c, k0, k1, b⟩ n).b]) ∧ Below w.heap.size w w' := by
  cases ho : Hf.odd n
  · have E : Hf.jump ⟨c, k0, k1, b⟩ n = ⟨c + n >>> 1, k0, k1, b⟩ := by simp only [Hf.jump, Hf.pre, ho]; rfl
    rw [E]; exact hjump_e c k0 k1 b n ho w
  · have E : Hf.jump ⟨c, k0, k1, b⟩ n = { Hf.step ⟨c, k0, k1, b⟩ with c := (Hf.step ⟨c, k0, k1, b⟩).c + n >>> 1 } := by simp only [Hf.jump, Hf.pre, ho, if_true]
    rw [E]; exact hjump_o c k0 k1 b n ho w
section
namespace Sx
section
variable {w : World} {x y : Operand}
theorem c_u64_u32 (p : BitVec 64) : (convert 22 29 (.int .u64 p.toNat)).run Tryz.prog w = .ok (.int .u32 (p.setWidth 32).toNat) w := by
  have h1 : (convert 22 29 (.int .u64 p.toNat)).run Tryz.prog w = .ok (.int .u32 (IntKind.u32.wrap p.toNat)) w := by kernel_rfl
  rw [h1, IntKind.wrap_u32, BitVec.toNat_setWidth]
  congr 2
end
end Sx
end
def mulhi32 (x : BitVec 32) (c : Nat) : BitVec 32 := BitVec.ofNat 32 (x.toNat * c / 4294967296)
structure Blk where
  a : BitVec 32
  b : BitVec 32
  c : BitVec 32
  d : BitVec 32
  deriving DecidableEq
structure Key where
  a : BitVec 32
  b : BitVec 32
  deriving DecidableEq
namespace Ph
def next (k : Key) : Key := ⟨k.a + 0x9e3779b9#32, k.b + 0xbb67ae85#32⟩
def round (b : Blk) (k : Key) : Blk := ⟨mulhi32 b.c 0xcd9e8d57 ^^^ b.b ^^^ k.a, b.c * 0xcd9e8d57#32, mulhi32 b.a 0xd2511f53 ^^^ b.d ^^^ k.b, b.a * 0xd2511f53#32⟩
def inv1 : BitVec 32 := 0x991a7cdb#32
def inv2 : BitVec 32 := 0x6d7cae67#32
def unround (b : Blk) (k : Key) : Blk :=
  ⟨b.d * inv1, b.a ^^^ mulhi32 (b.b * inv2) 0xcd9e8d57 ^^^ k.a, b.b * inv2, b.c ^^^ mulhi32 (b.d * inv1) 0xd2511f53 ^^^ k.b⟩
end Ph
namespace Ph
theorem ext {x y : Blk} (h0 : x.a = y.a) (h1 : x.b = y.b) (h2 : x.c = y.c) (h3 : x.d = y.d) : x = y := by
  cases x; cases y; simp_all
theorem back1 (x : BitVec 32) : x * 0xd2511f53#32 * inv1 = x := by
  rw [BitVec.mul_assoc, show (0xd2511f53#32 * inv1 : BitVec 32) = 1#32 from by decide]; simp
theorem back2 (x : BitVec 32) : x * 0xcd9e8d57#32 * inv2 = x := by
  rw [BitVec.mul_assoc, show (0xcd9e8d57#32 * inv2 : BitVec 32) = 1#32 from by decide]; simp
theorem xx (h x k : BitVec 32) : h ^^^ x ^^^ k ^^^ h ^^^ k = x := by
  rw [show h ^^^ x ^^^ k ^^^ h ^^^ k = (h ^^^ h) ^^^ (k ^^^ k) ^^^ x from by ac_rfl]; simp
theorem unround_round (b : Blk) (k : Key) : unround (round b k) k = b := by
  apply ext <;> simp only [unround, round, back1, back2, xx]
def step (s : Blk × Key) : Blk × Key := (round s.1 s.2, next s.2)
def it : Nat → Blk × Key → Blk × Key
  | 0, s => s
  | n + 1, s => step (it n s)
def mix (n : Nat) (b : Blk) (k : Key) : Blk := (it n (b, k)).1
def keyAt (n : Nat) (k : Key) : Key := (it n (⟨0, 0, 0, 0⟩, k)).2
theorem it_key (n : Nat) (b b' : Blk) (k : Key) : (it n (b, k)).2 = (it n (b', k)).2 := by
  induction n with
  | zero => rfl
  | succ n ih => simp [it, step, ih]
theorem it_key' (n : Nat) (b : Blk) (k : Key) : (it n (b, k)).2 = keyAt n k := it_key n b _ k
theorem keyAt_succ (n : Nat) (k : Key) : keyAt (n + 1) k = next (keyAt n k) := rfl
theorem mix_succ (n : Nat) (b : Blk) (k : Key) : mix (n + 1) b k = round (mix n b k) (keyAt n k) := by
  show round (it n (b, k)).1 (it n (b, k)).2 = _
  rw [it_key']; rfl
def unmixTo (n : Nat) (b : Blk) (k : Key) : Nat → Blk
  | 0 => b
  | j + 1 => unround (unmixTo n b k j) (keyAt (n - 1 - j) k)
def unmix (n : Nat) (b : Blk) (k : Key) : Blk := unmixTo n b k n
theorem unmixTo_mix (n : Nat) (b : Blk) (k : Key) : ∀ j, j ≤ n → unmixTo n (mix n b k) k j = mix (n - j) b k := by
  intro j
  induction j with
  | zero => intro _; rfl
  | succ j ih =>
    intro h
    rw [unmixTo, ih (by omega), show n - j = (n - 1 - j) + 1 from by omega, mix_succ, unround_round, show n - (j + 1) = n - 1 - j from by omega]
theorem unmix_mix (n : Nat) (b : Blk) (k : Key) : unmix n (mix n b k) k = b := by
  rw [unmix, unmixTo_mix n b k n (Nat.le_refl _), Nat.sub_self]; rfl
theorem it_add (n m : Nat) (s : Blk × Key) : it (n + m) s = it m (it n s) := by
  induction m with
  | zero => rfl
  | succ m ih => show step (it (n + m) s) = step (it m (it n s)); rw [ih]
theorem mix_inj (n : Nat) (a b : Blk) (k : Key) : mix n a k = mix n b k ↔ a = b :=
  ⟨fun h => by rw [← unmix_mix n a k, h, unmix_mix], fun h => by rw [h]⟩
end Ph
theorem hi32 (x : BitVec 32) (c : Nat) (hc : c < 4294967296) : ((x.toNat : Int) * (c : Int) / 4294967296) = ((mulhi32 x c).toNat : Int) := by
  unfold mulhi32
  have h : x.toNat * c / 4294967296 < 4294967296 := by
    have h1 : x.toNat * c ≤ 4294967295 * 4294967295 := Nat.mul_le_mul (by have := x.isLt; omega) (by omega)
    omega
  rw [BitVec.toNat_ofNat, Nat.mod_eq_of_lt (by simpa using h), Int.natCast_ediv, Int.natCast_mul]
  rfl
theorem c1_lit : (3528531795 : Int) = ((0xd2511f53#32).toNat : Int) := by decide
theorem c2_lit : (3449720151 : Int) = ((0xcd9e8d57#32).toNat : Int) := by decide
theorem n1_lit : (2654435769 : Int) = ((0x9e3779b9#32).toNat : Int) := by decide
theorem n2_lit : (3144134277 : Int) = ((0xbb67ae85#32).toNat : Int) := by decide
set_option maxRecDepth 100000 in
theorem next_c (k0 k1 : BitVec 32) (w : World) :
    Calls Tryz.prog 279 #[.agg #[.int .u32 k0.toNat, .int .u32 k1.toNat]] w fun e w' =>
      e = .returned (.agg #[.int .u32 (Ph.next ⟨k0, k1⟩).a.toNat, .int .u32 (Ph.next ⟨k0, k1⟩).b.toNat]) ∧ Below w.heap.size w w' := by
  go_enter Tryz.func279, Tryz.ntmps279
  go_wp2
  go_returns
  exact ⟨ret_agg2 (by rw [n1_lit, add32]; rfl) (by rw [n2_lit, add32]; rfl), by (repeat' (first | (with_reducible exact Below.refl _ _) | (with_reducible assumption) | (with_reducible refine Below.alloc ?_ ?_ _) | (with_reducible refine Below.drew ?_) | (with_reducible refine below_drewN ?_ _) | (with_reducible refine Below.setCell ?_ ?_ _) | (with_reducible refine Below.trans ?_ (Below.mono (by assumption) ?_)) | go_size))⟩
theorem hi_c2 (x : BitVec 32) : ((x.toNat : Int) * 3449720151 / 4294967296) = ((mulhi32 x 3449720151).toNat : Int) := hi32 x 3449720151 (by decide)
theorem hi_c1 (x : BitVec 32) : ((x.toNat : Int) * 3528531795 / 4294967296) = ((mulhi32 x 3528531795).toNat : Int) := hi32 x 3528531795 (by decide)
set_option maxRecDepth 100000 in
theorem round_c (b0 b1 b2 b3 k0 k1 : BitVec 32) (w : World) :
    Calls Tryz.prog 276 #[.agg #[.int .u32 b0.toNat, .int .u32 b1.toNat, .int .u32 b2.toNat, .int .u32 b3.toNat], .agg #[.int .u32 k0.toNat, .int .u32 k1.toNat]] w fun e w' =>
      e = .returned (.agg #[.int .u32 (Ph.round ⟨b0, b1, b2, b3⟩ ⟨k0, k1⟩).a.toNat, .int .u32 (Ph.round ⟨b0, b1, b2, b3⟩ ⟨k0, k1⟩).b.toNat, .int .u32 (Ph.round ⟨b0, b1, b2, b3⟩ ⟨k0, k1⟩).c.toNat, .int .u32 (Ph.round ⟨b0, b1, b2, b3⟩ ⟨k0, k1⟩).d.toNat]) ∧ Below w.heap.size w w' := by
  go_enter Tryz.func276, Tryz.ntmps276
  go_wp2
  go_quiet (fail)
  go_wp2
  go_returns
  refine ⟨ret_agg4 ?_ ?_ ?_ ?_, by (repeat' (first | (with_reducible exact Below.refl _ _) | (with_reducible assumption) | (with_reducible refine Below.alloc ?_ ?_ _) | (with_reducible refine Below.drew ?_) | (with_reducible refine below_drewN ?_ _) | (with_reducible refine Below.setCell ?_ ?_ _) | (with_reducible refine Below.trans ?_ (Below.mono (by assumption) ?_)) | go_size))⟩
  · rw [hi_c2, xor32, xor32]; rfl
  · rw [c2_lit, mul32]; rfl
  · rw [hi_c1, xor32, xor32]; rfl
  · rw [c1_lit, mul32]; rfl

def fnF (b : Nat) : Value := .func (.func 275) #[] #[.pointer (some ⟨b, 0, none⟩)]
def fnB (b : Nat) : Value := .func (.func 277) #[] #[.pointer (some ⟨b, 0, none⟩)]
def fl (B : Nat → Nat) (n : Nat) : List Value := (List.range n).flatMap fun i => [fnF (B i), fnB (B i)]
theorem fl_succ (B : Nat → Nat) (n : Nat) : fl B (n + 1) = fl B n ++ [fnF (B n), fnB (B n)] := by simp [fl, List.range_succ]
theorem fl_congr (B B' : Nat → Nat) (n : Nat) (h : ∀ i, i < n → B i = B' i) : fl B n = fl B' n := by
  unfold fl
  rw [List.flatMap_def, List.flatMap_def, List.map_congr_left]
  intro i hi
  rw [h i (List.mem_range.1 hi)]
theorem fl_length (B : Nat → Nat) (n : Nat) : (fl B n).length = n * 2 := by
  induction n with
  | zero => rfl
  | succ n ih => rw [fl_succ, List.length_append, ih]; simp; omega
theorem fl_at (B : Nat → Nat) (n : Nat) : ∀ i, i < n → (fl B n)[2 * i]? = some (fnF (B i)) ∧ (fl B n)[2 * i + 1]? = some (fnB (B i)) := by
  induction n with
  | zero => intro i h; omega
  | succ n ih =>
    intro i h
    rw [fl_succ]
    by_cases hi : i < n
    · rw [List.getElem?_append_left (by rw [fl_length]; omega), List.getElem?_append_left (by rw [fl_length]; omega)]
      exact ih i hi
    · obtain rfl : i = n := by omega
      rw [List.getElem?_append_right (by rw [fl_length]; omega), List.getElem?_append_right (by rw [fl_length]; omega), fl_length]
      constructor
      · rw [show 2 * i - i * 2 = 0 from by omega]; rfl
      · rw [show 2 * i + 1 - i * 2 = 1 from by omega]; rfl
def Keys (w : World) (lo : Nat) (k : Key) (B : Nat → Nat) (n : Nat) : Prop :=
  ∀ i, i < n → lo ≤ B i ∧ w.heap[B i]? = some (.cells #[.int .u32 (Ph.keyAt i k).a.toNat, .int .u32 (Ph.keyAt i k).b.toNat] 31 (0, 0))
def StepRow (w : World) (lo : Nat) (k : Key) (n : Nat) (v : Value) : Prop :=
  ∃ B, Keys w lo k B n ∧ w.ownsRow lo 337 2 v n (fl B n)
def StepsPost (w : World) (k : Key) (n : Nat) (e : Ending) (w' : World) : Prop :=
  ∃ v, e = .returned (.tuple #[v, .int .i64 0]) ∧ StepRow w' (w.heap.size + 1) k n v ∧ Below w.heap.size w w'
theorem keys_mid {lo n : Nat} {k : Key} {B : Nat → Nat} {w w' : World} (h : Keys w lo k B n) (hm : Mid lo w w') : Keys w' lo k B n := by
  intro i hi
  obtain ⟨hl, hh⟩ := h i hi
  refine ⟨hl, ?_⟩
  rw [hm.block _ hl (Array.getElem?_eq_some_iff.1 hh).1]
  exact hh
theorem keys_step {lo j : Nat} {k : Key} {B : Nat → Nat} {wr W2 w1 : World} {v : Value} {y : Key} {xs : List Value} (hk : Keys wr lo k B j) (hown : wr.ownsRow lo 337 2 v j xs) (hlo : lo ≤ wr.heap.size)
    (hy : Ph.keyAt j k = y) (o : Obj) (hW : W2 = (wr.alloc (.cells #[.int .u32 y.a.toNat, .int .u32 y.b.toNat] 31)).alloc o) (hg : W2.grownBy w1 v.ownBlock) :
    Keys w1 lo k (fun i => if i = j then wr.heap.size else B i) (j + 1) := by
  intro i hi
  by_cases hij : i = j
  · subst hij
    simp only [eq_self, if_true]
    refine ⟨hlo, ?_⟩
    rw [hg.block _ (by rw [hW]; simp; omega) (fun e => by have := (hown.lt _ e.symm).2; omega), hW, Below.heap_alloc _ _ _ (by simp), hy]
    show (wr.heap.push _)[wr.heap.size]? = _
    simp
  · simp only [if_neg hij]
    obtain ⟨hl, hh⟩ := hk i (by omega)
    have hlt := (Array.getElem?_eq_some_iff.1 hh).1
    refine ⟨hl, ?_⟩
    rw [hg.block _ (by rw [hW]; simp; omega) ?_, hW, Below.heap_alloc _ _ _ (by simp; omega), Below.heap_alloc _ _ _ hlt]
    · exact hh
    · intro e
      rcases hown.2 with ⟨rfl, _⟩ | ⟨g, cap, cur, rfl, _, hgg, _⟩
      · simp [Value.ownBlock] at e
      · simp [Value.ownBlock] at e
        rw [e] at hh
        rw [hgg] at hh
        simp at hh
theorem Tryz.infoStep : (Tryz.prog.info? 337).map (fun i => (i.zero, i.size, i.bytes)) = some (some (.agg #[.nilFunc, .nilFunc]), 2, 16) := by kernel_rfl
set_option maxRecDepth 100000 in
theorem steps_ok (n : Nat) (hn : n ≤ 100) (k0 k1 : BitVec 32) (w : World) :
    Calls Tryz.prog 274 #[.agg #[.int .u32 k0.toNat, .int .u32 k1.toNat], .int .i64 n] w (StepsPost w ⟨k0, k1⟩ n) := by
  obtain ⟨i0, hi, hi0, hi1, hi2⟩ := info_parts Tryz.infoStep
  have h0 : ¬ (n : Int) < 0 := by omega
  have h1 : ¬ (100 : Int) < n := by omega
  go_enter Tryz.func274, Tryz.ntmps274
  go_wp2
  go_loopw [6, 15] (fun v i wr => ∃ (j : Nat) (y : Key) (B : Nat → Nat), j ≤ n ∧ i = .int .i64 j ∧ Hid (Ph.keyAt j ⟨k0, k1⟩ = y) ∧
      Box2 wr w.heap.size (.int .u32 y.a.toNat) (.int .u32 y.b.toNat) ∧ wr.ownsRow (w.heap.size + 1) 337 2 v j (fl B j) ∧ Hid (Keys wr (w.heap.size + 1) ⟨k0, k1⟩ B j) ∧
      w.heap.size + 1 ≤ wr.heap.size ∧ Below w.heap.size w wr) (fun _ i _ => n - (intOf i).toNat)
  case atStart =>
    exact ⟨0, ⟨k0, k1⟩, fun _ => 0, by omega, rfl, Lib.hid rfl, ⟨by go_simp, by go_simp⟩, World.ownsRow_nil _ _ _ _, Lib.hid (fun i h => by omega), by simp, by (repeat' (first | (with_reducible exact Below.refl _ _) | (with_reducible assumption) | (with_reducible refine Below.alloc ?_ ?_ _) | (with_reducible refine Below.drew ?_) | (with_reducible refine below_drewN ?_ _) | (with_reducible refine Below.setCell ?_ ?_ _) | (with_reducible refine Below.trans ?_ (Below.mono (by assumption) ?_)) | go_size))⟩
  case round =>
    obtain ⟨j, ⟨y0, y1⟩, B, hj, rfl, hy, ⟨⟨d0, d1⟩, ⟨g0, g1⟩⟩, hown, hkeys, hz, hb⟩ := hrel
    by_cases hlt : j < n
    · go_wp2_with (at_builtin; refine wpList_append_own _ rfl _ _ 332 rfl (w.heap.size + 1) 337 i0 (.agg #[.nilFunc, .nilFunc]) 2 16 Tryz.underlying332 hi hi0 hi1 hi2 rfl (by decide) _ _ _ rfl ((hown.alloc _).alloc _) ⟨wr.heap.size + 1, 0, none⟩ 1 1 [fnF wr.heap.size, fnB wr.heap.size] rfl rfl ?c1 ?c2 ?c3 ?c4 ?c5 ?_)
      case c1 => exact fun _ _ h => h
      case c2 => exact ⟨rfl, rfl⟩
      case c3 => unfold maxLen; omega
      case c4 => omega
      case c5 => exact (by first | omega | (simp; done) | (simp; omega))
      · intro v' w1 hown' hgrow _
        have K := keys_step hkeys.out hown hz hy.out _ rfl hgrow
        have hb1 : Below w.heap.size w w1 := Below.grown (by (repeat' (first | (with_reducible exact Below.refl _ _) | (with_reducible assumption) | (with_reducible refine Below.alloc ?_ ?_ _) | (with_reducible refine Below.drew ?_) | (with_reducible refine below_drewN ?_ _) | (with_reducible refine Below.setCell ?_ ?_ _) | (with_reducible refine Below.trans ?_ (Below.mono (by assumption) ?_)) | go_size))) hgrow (by simp; omega) (fun k e => by have := (hown.lt _ e).1; omega)
        have hz1 : wr.heap.size + 1 + 1 ≤ w1.heap.size := by have := hgrow.size; simp at this; omega
        have e0 : w1.cell? ⟨w.heap.size, 0, none⟩ = some (.int .u32 y0.toNat) := hgrow.cell (Mid.cell (lo := 0) (by (repeat' (first | (with_reducible exact Mid.refl _ _) | (with_reducible assumption) | (with_reducible refine Mid.alloc ?_ _) | (with_reducible refine Mid.drew ?_) | (with_reducible refine Mid.drewN ?_ _) | (with_reducible refine Mid.setCell ?_ ?_ _) | (with_reducible refine Mid.below ?_ (by assumption)) | go_size))) (Nat.zero_le _) (by first | omega | (simp; done) | (simp; omega)) d0) (fun e => by have := (hown.lt _ e.symm).1; simp at this; omega)
        have e1 : w1.cell? ⟨w.heap.size, 1, none⟩ = some (.int .u32 y1.toNat) := hgrow.cell (Mid.cell (lo := 0) (by (repeat' (first | (with_reducible exact Mid.refl _ _) | (with_reducible assumption) | (with_reducible refine Mid.alloc ?_ _) | (with_reducible refine Mid.drew ?_) | (with_reducible refine Mid.drewN ?_ _) | (with_reducible refine Mid.setCell ?_ ?_ _) | (with_reducible refine Mid.below ?_ (by assumption)) | go_size))) (Nat.zero_le _) (by first | omega | (simp; done) | (simp; omega)) d1) (fun e => by have := (hown.lt _ e.symm).1; simp at this; omega)
        have fr (o : Nat) : w1.frozen? ⟨w.heap.size, o, none⟩ = wr.frozen? ⟨w.heap.size, o, none⟩ := by
          refine World.frozen?_of_block ?_
          rw [hgrow.block _ (by simp; omega) (fun e => by have := (hown.lt _ e.symm).1; simp at this; omega), Below.heap_alloc _ _ _ (by simp; omega), Below.heap_alloc _ _ _ (by simp; omega)]
        have f0 := (fr 0).trans g0
        have f1 := (fr 1).trans g1
        have hown2 : w1.ownsRow (w.heap.size + 1) 337 2 v' (j + 1) (fl (fun i => if i = j then wr.heap.size else B i) (j + 1)) := by
          rw [fl_succ, if_pos rfl, fl_congr _ B j (fun i hi => if_neg (by omega))]; exact hown'
        have KH := Lib.hid K
        have OH := Lib.hid hown2
        clear K hown' hown2 hgrow hown hkeys fr hb
        go_wp2_with fail
        refine (next_c _ _ _).mono ?_
        rintro e w2 ⟨rfl, hb2⟩
        have hz2 := hb2.size; (try simp at hz2)
        have kc2w_heap_size_0 : w2.cell? ⟨w.heap.size, 0, none⟩ = some (.int .u32 y0.toNat) := (hb2.cell (p := ⟨w.heap.size, 0, none⟩) (by first | omega | (simp; done) | (simp; omega))).trans (by (first | (with_reducible assumption) | (repeat' (first | (with_reducible assumption) | (with_reducible refine keep_drew ?_) | (with_reducible refine keepf_drew ?_) | (with_reducible refine keep_alloc' (by first | omega | (simp; done) | (simp; omega)) ?_) | (with_reducible refine keepf_alloc' (by first | omega | (simp; done) | (simp; omega)) ?_) | (with_reducible refine keep_set (by dsimp only; omega) ?_) | (go_simp; done))))); have kf2w_heap_size_0 : w2.frozen? ⟨w.heap.size, 0, none⟩ = false := (hb2.frozen (p := ⟨w.heap.size, 0, none⟩) (by first | omega | (simp; done) | (simp; omega))).trans (by (first | (with_reducible assumption) | (repeat' (first | (with_reducible assumption) | (with_reducible refine keep_drew ?_) | (with_reducible refine keepf_drew ?_) | (with_reducible refine keep_alloc' (by first | omega | (simp; done) | (simp; omega)) ?_) | (with_reducible refine keepf_alloc' (by first | omega | (simp; done) | (simp; omega)) ?_) | (with_reducible refine keep_set (by dsimp only; omega) ?_) | (go_simp; done))))); have kc2w_heap_size_1 : w2.cell? ⟨w.heap.size, 1, none⟩ = some (.int .u32 y1.toNat) := (hb2.cell (p := ⟨w.heap.size, 1, none⟩) (by first | omega | (simp; done) | (simp; omega))).trans (by (first | (with_reducible assumption) | (repeat' (first | (with_reducible assumption) | (with_reducible refine keep_drew ?_) | (with_reducible refine keepf_drew ?_) | (with_reducible refine keep_alloc' (by first | omega | (simp; done) | (simp; omega)) ?_) | (with_reducible refine keepf_alloc' (by first | omega | (simp; done) | (simp; omega)) ?_) | (with_reducible refine keep_set (by dsimp only; omega) ?_) | (go_simp; done))))); have kf2w_heap_size_1 : w2.frozen? ⟨w.heap.size, 1, none⟩ = false := (hb2.frozen (p := ⟨w.heap.size, 1, none⟩) (by first | omega | (simp; done) | (simp; omega))).trans (by (first | (with_reducible assumption) | (repeat' (first | (with_reducible assumption) | (with_reducible refine keep_drew ?_) | (with_reducible refine keepf_drew ?_) | (with_reducible refine keep_alloc' (by first | omega | (simp; done) | (simp; omega)) ?_) | (with_reducible refine keepf_alloc' (by first | omega | (simp; done) | (simp; omega)) ?_) | (with_reducible refine keep_set (by dsimp only; omega) ?_) | (go_simp; done)))))
        go_wp2
        go_roundw
        case rel =>
          refine ⟨j + 1, Ph.next ⟨y0, y1⟩, _, by omega, by go_num, Lib.hid ?_, ⟨by go_simp, by go_simp⟩, Mid.owns (lo := w.heap.size + 1) ?_ (Nat.le_refl _) OH.out, Lib.hid (keys_mid KH.out ?_), ?_, ?_⟩
          · rw [Ph.keyAt_succ, hy.out]
          · (repeat' (first | (with_reducible exact Mid.refl _ _) | (with_reducible assumption) | (with_reducible refine Mid.alloc ?_ _) | (with_reducible refine Mid.drew ?_) | (with_reducible refine Mid.drewN ?_ _) | (with_reducible refine Mid.setCell ?_ ?_ _) | (with_reducible refine Mid.below ?_ (by assumption)) | go_size))
          · (repeat' (first | (with_reducible exact Mid.refl _ _) | (with_reducible assumption) | (with_reducible refine Mid.alloc ?_ _) | (with_reducible refine Mid.drew ?_) | (with_reducible refine Mid.drewN ?_ _) | (with_reducible refine Mid.setCell ?_ ?_ _) | (with_reducible refine Mid.below ?_ (by assumption)) | go_size))
          · simp; omega
          · (repeat' (first | (with_reducible exact Below.refl _ _) | (with_reducible assumption) | (with_reducible refine Below.alloc ?_ ?_ _) | (with_reducible refine Below.drew ?_) | (with_reducible refine below_drewN ?_ _) | (with_reducible refine Below.setCell ?_ ?_ _) | (with_reducible refine Below.trans ?_ (Below.mono (by assumption) ?_)) | go_size))
        case measure => simp [intOf]; omega
    · obtain rfl : j = n := by omega
      go_wp2
      go_ret2
      exact ⟨_, rfl, ⟨B, hkeys.out, hown⟩, hb⟩
set_option maxRecDepth 100000 in
theorem forth_c (b0 b1 b2 b3 k0 k1 : BitVec 32) (B : Nat) (w : World) (h0 : w.cell? ⟨B, 0, none⟩ = some (.int .u32 k0.toNat)) (h1 : w.cell? ⟨B, 1, none⟩ = some (.int .u32 k1.toNat)) :
    Calls Tryz.prog 275 #[.agg #[.int .u32 b0.toNat, .int .u32 b1.toNat, .int .u32 b2.toNat, .int .u32 b3.toNat], .pointer (some ⟨B, 0, none⟩)] w fun e w' =>
      e = .returned (.agg #[.int .u32 (Ph.round ⟨b0, b1, b2, b3⟩ ⟨k0, k1⟩).a.toNat, .int .u32 (Ph.round ⟨b0, b1, b2, b3⟩ ⟨k0, k1⟩).b.toNat, .int .u32 (Ph.round ⟨b0, b1, b2, b3⟩ ⟨k0, k1⟩).c.toNat, .int .u32 (Ph.round ⟨b0, b1, b2, b3⟩ ⟨k0, k1⟩).d.toNat]) ∧ Below w.heap.size w w' := by
  have hB : B < w.heap.size := by
    unfold World.cell? at h0
    by_cases h : B < w.heap.size
    · exact h
    · rw [Array.getElem?_eq_none (by simpa using h)] at h0; simp at h0
  have hx0 : ((w.alloc (.cells #[.int .u32 b0.toNat, .int .u32 b1.toNat, .int .u32 b2.toNat, .int .u32 b3.toNat] 325)).alloc (.cells #[.int .u32 0, .int .u32 0, .int .u32 0, .int .u32 0] 325)).cell? ⟨B, 0, none⟩ = some (.int .u32 k0.toNat) := Mid.cell (lo := 0) (w := w) (by (repeat' (first | (with_reducible exact Mid.refl _ _) | (with_reducible assumption) | (with_reducible refine Mid.alloc ?_ _) | (with_reducible refine Mid.drew ?_) | (with_reducible refine Mid.drewN ?_ _) | (with_reducible refine Mid.setCell ?_ ?_ _) | (with_reducible refine Mid.below ?_ (by assumption)) | go_size))) (Nat.zero_le _) hB h0
  have hx1 : ((w.alloc (.cells #[.int .u32 b0.toNat, .int .u32 b1.toNat, .int .u32 b2.toNat, .int .u32 b3.toNat] 325)).alloc (.cells #[.int .u32 0, .int .u32 0, .int .u32 0, .int .u32 0] 325)).cell? ⟨B, 1, none⟩ = some (.int .u32 k1.toNat) := Mid.cell (lo := 0) (w := w) (by (repeat' (first | (with_reducible exact Mid.refl _ _) | (with_reducible assumption) | (with_reducible refine Mid.alloc ?_ _) | (with_reducible refine Mid.drew ?_) | (with_reducible refine Mid.drewN ?_ _) | (with_reducible refine Mid.setCell ?_ ?_ _) | (with_reducible refine Mid.below ?_ (by assumption)) | go_size))) (Nat.zero_le _) hB h1
  go_enter Tryz.func275, Tryz.ntmps275
  go_wp2_with fail
  refine (round_c _ _ _ _ _ _ _).mono ?_
  rintro e w1 ⟨rfl, hb1⟩
  have hz1 := hb1.size; (try simp at hz1)
  have kc1w_heap_size___1_0 : w1.cell? ⟨w.heap.size + 1, 0, none⟩ = some (.int .u32 0) := (hb1.cell (p := ⟨w.heap.size + 1, 0, none⟩) (by first | omega | (simp; done) | (simp; omega))).trans (by (first | (with_reducible assumption) | (repeat' (first | (with_reducible assumption) | (with_reducible refine keep_drew ?_) | (with_reducible refine keepf_drew ?_) | (with_reducible refine keep_alloc' (by first | omega | (simp; done) | (simp; omega)) ?_) | (with_reducible refine keepf_alloc' (by first | omega | (simp; done) | (simp; omega)) ?_) | (with_reducible refine keep_set (by dsimp only; omega) ?_) | (go_simp; done))))); have kf1w_heap_size___1_0 : w1.frozen? ⟨w.heap.size + 1, 0, none⟩ = false := (hb1.frozen (p := ⟨w.heap.size + 1, 0, none⟩) (by first | omega | (simp; done) | (simp; omega))).trans (by (first | (with_reducible assumption) | (repeat' (first | (with_reducible assumption) | (with_reducible refine keep_drew ?_) | (with_reducible refine keepf_drew ?_) | (with_reducible refine keep_alloc' (by first | omega | (simp; done) | (simp; omega)) ?_) | (with_reducible refine keepf_alloc' (by first | omega | (simp; done) | (simp; omega)) ?_) | (with_reducible refine keep_set (by dsimp only; omega) ?_) | (go_simp; done))))); have kc1w_heap_size___1_1 : w1.cell? ⟨w.heap.size + 1, 1, none⟩ = some (.int .u32 0) := (hb1.cell (p := ⟨w.heap.size + 1, 1, none⟩) (by first | omega | (simp; done) | (simp; omega))).trans (by (first | (with_reducible assumption) | (repeat' (first | (with_reducible assumption) | (with_reducible refine keep_drew ?_) | (with_reducible refine keepf_drew ?_) | (with_reducible refine keep_alloc' (by first | omega | (simp; done) | (simp; omega)) ?_) | (with_reducible refine keepf_alloc' (by first | omega | (simp; done) | (simp; omega)) ?_) | (with_reducible refine keep_set (by dsimp only; omega) ?_) | (go_simp; done))))); have kf1w_heap_size___1_1 : w1.frozen? ⟨w.heap.size + 1, 1, none⟩ = false := (hb1.frozen (p := ⟨w.heap.size + 1, 1, none⟩) (by first | omega | (simp; done) | (simp; omega))).trans (by (first | (with_reducible assumption) | (repeat' (first | (with_reducible assumption) | (with_reducible refine keep_drew ?_) | (with_reducible refine keepf_drew ?_) | (with_reducible refine keep_alloc' (by first | omega | (simp; done) | (simp; omega)) ?_) | (with_reducible refine keepf_alloc' (by first | omega | (simp; done) | (simp; omega)) ?_) | (with_reducible refine keep_set (by dsimp only; omega) ?_) | (go_simp; done))))); have kc1w_heap_size___1_2 : w1.cell? ⟨w.heap.size + 1, 2, none⟩ = some (.int .u32 0) := (hb1.cell (p := ⟨w.heap.size + 1, 2, none⟩) (by first | omega | (simp; done) | (simp; omega))).trans (by (first | (with_reducible assumption) | (repeat' (first | (with_reducible assumption) | (with_reducible refine keep_drew ?_) | (with_reducible refine keepf_drew ?_) | (with_reducible refine keep_alloc' (by first | omega | (simp; done) | (simp; omega)) ?_) | (with_reducible refine keepf_alloc' (by first | omega | (simp; done) | (simp; omega)) ?_) | (with_reducible refine keep_set (by dsimp only; omega) ?_) | (go_simp; done))))); have kf1w_heap_size___1_2 : w1.frozen? ⟨w.heap.size + 1, 2, none⟩ = false := (hb1.frozen (p := ⟨w.heap.size + 1, 2, none⟩) (by first | omega | (simp; done) | (simp; omega))).trans (by (first | (with_reducible assumption) | (repeat' (first | (with_reducible assumption) | (with_reducible refine keep_drew ?_) | (with_reducible refine keepf_drew ?_) | (with_reducible refine keep_alloc' (by first | omega | (simp; done) | (simp; omega)) ?_) | (with_reducible refine keepf_alloc' (by first | omega | (simp; done) | (simp; omega)) ?_) | (with_reducible refine keep_set (by dsimp only; omega) ?_) | (go_simp; done))))); have kc1w_heap_size___1_3 : w1.cell? ⟨w.heap.size + 1, 3, none⟩ = some (.int .u32 0) := (hb1.cell (p := ⟨w.heap.size + 1, 3, none⟩) (by first | omega | (simp; done) | (simp; omega))).trans (by (first | (with_reducible assumption) | (repeat' (first | (with_reducible assumption) | (with_reducible refine keep_drew ?_) | (with_reducible refine keepf_drew ?_) | (with_reducible refine keep_alloc' (by first | omega | (simp; done) | (simp; omega)) ?_) | (with_reducible refine keepf_alloc' (by first | omega | (simp; done) | (simp; omega)) ?_) | (with_reducible refine keep_set (by dsimp only; omega) ?_) | (go_simp; done))))); have kf1w_heap_size___1_3 : w1.frozen? ⟨w.heap.size + 1, 3, none⟩ = false := (hb1.frozen (p := ⟨w.heap.size + 1, 3, none⟩) (by first | omega | (simp; done) | (simp; omega))).trans (by (first | (with_reducible assumption) | (repeat' (first | (with_reducible assumption) | (with_reducible refine keep_drew ?_) | (with_reducible refine keepf_drew ?_) | (with_reducible refine keep_alloc' (by first | omega | (simp; done) | (simp; omega)) ?_) | (with_reducible refine keepf_alloc' (by first | omega | (simp; done) | (simp; omega)) ?_) | (with_reducible refine keep_set (by dsimp only; omega) ?_) | (go_simp; done)))))
  clear hx0 hx1 h0 h1
  go_wp2
  refine bodyPost_ret (v := .agg #[.int .u32 (Ph.round ⟨b0, b1, b2, b3⟩ ⟨k0, k1⟩).a.toNat, .int .u32 (Ph.round ⟨b0, b1, b2, b3⟩ ⟨k0, k1⟩).b.toNat, .int .u32 (Ph.round ⟨b0, b1, b2, b3⟩ ⟨k0, k1⟩).c.toNat, .int .u32 (Ph.round ⟨b0, b1, b2, b3⟩ ⟨k0, k1⟩).d.toNat]) (by simp [results, Tryz.results275, go_sem, *]) rfl ?_
  exact ⟨rfl, by (repeat' (first | (with_reducible exact Below.refl _ _) | (with_reducible assumption) | (with_reducible refine Below.alloc ?_ ?_ _) | (with_reducible refine Below.drew ?_) | (with_reducible refine below_drewN ?_ _) | (with_reducible refine Below.setCell ?_ ?_ _) | (with_reducible refine Below.trans ?_ (Below.mono (by assumption) ?_)) | go_size))⟩
set_option maxRecDepth 100000 in
theorem mix_ok (n : Nat) (hn : n ≤ 100) (b0 b1 b2 b3 k0 k1 : BitVec 32) (w : World) :
    Calls Tryz.prog 273 #[.agg #[.int .u32 b0.toNat, .int .u32 b1.toNat, .int .u32 b2.toNat, .int .u32 b3.toNat], .agg #[.int .u32 k0.toNat, .int .u32 k1.toNat], .int .i64 n] w fun e w' =>
      e = .returned (.tuple #[.agg #[.int .u32 (Ph.mix n ⟨b0, b1, b2, b3⟩ ⟨k0, k1⟩).a.toNat, .int .u32 (Ph.mix n ⟨b0, b1, b2, b3⟩ ⟨k0, k1⟩).b.toNat, .int .u32 (Ph.mix n ⟨b0, b1, b2, b3⟩ ⟨k0, k1⟩).c.toNat, .int .u32 (Ph.mix n ⟨b0, b1, b2, b3⟩ ⟨k0, k1⟩).d.toNat], .int .i64 0]) ∧ Below w.heap.size w w' := by
  go_enter Tryz.func273, Tryz.ntmps273
  go_wp2_with fail
  refine (steps_ok n hn _ _ _).mono ?_
  rintro e w1 ⟨v, rfl, ⟨B, hkeys, hown⟩, hb1⟩
  have hz1 := hb1.size; (try simp at hz1)
  have kc1w_heap_size_0 : w1.cell? ⟨w.heap.size, 0, none⟩ = some (.int .u32 b0.toNat) := (hb1.cell (p := ⟨w.heap.size, 0, none⟩) (by first | omega | (simp; done) | (simp; omega))).trans (by (first | (with_reducible assumption) | (repeat' (first | (with_reducible assumption) | (with_reducible refine keep_drew ?_) | (with_reducible refine keepf_drew ?_) | (with_reducible refine keep_alloc' (by first | omega | (simp; done) | (simp; omega)) ?_) | (with_reducible refine keepf_alloc' (by first | omega | (simp; done) | (simp; omega)) ?_) | (with_reducible refine keep_set (by dsimp only; omega) ?_) | (go_simp; done))))); have kf1w_heap_size_0 : w1.frozen? ⟨w.heap.size, 0, none⟩ = false := (hb1.frozen (p := ⟨w.heap.size, 0, none⟩) (by first | omega | (simp; done) | (simp; omega))).trans (by (first | (with_reducible assumption) | (repeat' (first | (with_reducible assumption) | (with_reducible refine keep_drew ?_) | (with_reducible refine keepf_drew ?_) | (with_reducible refine keep_alloc' (by first | omega | (simp; done) | (simp; omega)) ?_) | (with_reducible refine keepf_alloc' (by first | omega | (simp; done) | (simp; omega)) ?_) | (with_reducible refine keep_set (by dsimp only; omega) ?_) | (go_simp; done))))); have kc1w_heap_size_1 : w1.cell? ⟨w.heap.size, 1, none⟩ = some (.int .u32 b1.toNat) := (hb1.cell (p := ⟨w.heap.size, 1, none⟩) (by first | omega | (simp; done) | (simp; omega))).trans (by (first | (with_reducible assumption) | (repeat' (first | (with_reducible assumption) | (with_reducible refine keep_drew ?_) | (with_reducible refine keepf_drew ?_) | (with_reducible refine keep_alloc' (by first | omega | (simp; done) | (simp; omega)) ?_) | (with_reducible refine keepf_alloc' (by first | omega | (simp; done) | (simp; omega)) ?_) | (with_reducible refine keep_set (by dsimp only; omega) ?_) | (go_simp; done))))); have kf1w_heap_size_1 : w1.frozen? ⟨w.heap.size, 1, none⟩ = false := (hb1.frozen (p := ⟨w.heap.size, 1, none⟩) (by first | omega | (simp; done) | (simp; omega))).trans (by (first | (with_reducible assumption) | (repeat' (first | (with_reducible assumption) | (with_reducible refine keep_drew ?_) | (with_reducible refine keepf_drew ?_) | (with_reducible refine keep_alloc' (by first | omega | (simp; done) | (simp; omega)) ?_) | (with_reducible refine keepf_alloc' (by first | omega | (simp; done) | (simp; omega)) ?_) | (with_reducible refine keep_set (by dsimp only; omega) ?_) | (go_simp; done))))); have kc1w_heap_size_2 : w1.cell? ⟨w.heap.size, 2, none⟩ = some (.int .u32 b2.toNat) := (hb1.cell (p := ⟨w.heap.size, 2, none⟩) (by first | omega | (simp; done) | (simp; omega))).trans (by (first | (with_reducible assumption) | (repeat' (first | (with_reducible assumption) | (with_reducible refine keep_drew ?_) | (with_reducible refine keepf_drew ?_) | (with_reducible refine keep_alloc' (by first | omega | (simp; done) | (simp; omega)) ?_) | (with_reducible refine keepf_alloc' (by first | omega | (simp; done) | (simp; omega)) ?_) | (with_reducible refine keep_set (by dsimp only; omega) ?_) | (go_simp; done))))); have kf1w_heap_size_2 : w1.frozen? ⟨w.heap.size, 2, none⟩ = false := (hb1.frozen (p := ⟨w.heap.size, 2, none⟩) (by first | omega | (simp; done) | (simp; omega))).trans (by (first | (with_reducible assumption) | (repeat' (first | (with_reducible assumption) | (with_reducible refine keep_drew ?_) | (with_reducible refine keepf_drew ?_) | (with_reducible refine keep_alloc' (by first | omega | (simp; done) | (simp; omega)) ?_) | (with_reducible refine keepf_alloc' (by first | omega | (simp; done) | (simp; omega)) ?_) | (with_reducible refine keep_set (by dsimp only; omega) ?_) | (go_simp; done))))); have kc1w_heap_size_3 : w1.cell? ⟨w.heap.size, 3, none⟩ = some (.int .u32 b3.toNat) := (hb1.cell (p := ⟨w.heap.size, 3, none⟩) (by first | omega | (simp; done) | (simp; omega))).trans (by (first | (with_reducible assumption) | (repeat' (first | (with_reducible assumption) | (with_reducible refine keep_drew ?_) | (with_reducible refine keepf_drew ?_) | (with_reducible refine keep_alloc' (by first | omega | (simp; done) | (simp; omega)) ?_) | (with_reducible refine keepf_alloc' (by first | omega | (simp; done) | (simp; omega)) ?_) | (with_reducible refine keep_set (by dsimp only; omega) ?_) | (go_simp; done))))); have kf1w_heap_size_3 : w1.frozen? ⟨w.heap.size, 3, none⟩ = false := (hb1.frozen (p := ⟨w.heap.size, 3, none⟩) (by first | omega | (simp; done) | (simp; omega))).trans (by (first | (with_reducible assumption) | (repeat' (first | (with_reducible assumption) | (with_reducible refine keep_drew ?_) | (with_reducible refine keepf_drew ?_) | (with_reducible refine keep_alloc' (by first | omega | (simp; done) | (simp; omega)) ?_) | (with_reducible refine keepf_alloc' (by first | omega | (simp; done) | (simp; omega)) ?_) | (with_reducible refine keep_set (by dsimp only; omega) ?_) | (go_simp; done)))))
  have kc1w_heap_size___1___1_0 : w1.cell? ⟨w.heap.size + 1 + 1, 0, none⟩ = some (.int .u32 0) := (hb1.cell (p := ⟨w.heap.size + 1 + 1, 0, none⟩) (by first | omega | (simp; done) | (simp; omega))).trans (by (first | (with_reducible assumption) | (repeat' (first | (with_reducible assumption) | (with_reducible refine keep_drew ?_) | (with_reducible refine keepf_drew ?_) | (with_reducible refine keep_alloc' (by first | omega | (simp; done) | (simp; omega)) ?_) | (with_reducible refine keepf_alloc' (by first | omega | (simp; done) | (simp; omega)) ?_) | (with_reducible refine keep_set (by dsimp only; omega) ?_) | (go_simp; done))))); have kf1w_heap_size___1___1_0 : w1.frozen? ⟨w.heap.size + 1 + 1, 0, none⟩ = false := (hb1.frozen (p := ⟨w.heap.size + 1 + 1, 0, none⟩) (by first | omega | (simp; done) | (simp; omega))).trans (by (first | (with_reducible assumption) | (repeat' (first | (with_reducible assumption) | (with_reducible refine keep_drew ?_) | (with_reducible refine keepf_drew ?_) | (with_reducible refine keep_alloc' (by first | omega | (simp; done) | (simp; omega)) ?_) | (with_reducible refine keepf_alloc' (by first | omega | (simp; done) | (simp; omega)) ?_) | (with_reducible refine keep_set (by dsimp only; omega) ?_) | (go_simp; done))))); have kc1w_heap_size___1___1_1 : w1.cell? ⟨w.heap.size + 1 + 1, 1, none⟩ = some (.int .u32 0) := (hb1.cell (p := ⟨w.heap.size + 1 + 1, 1, none⟩) (by first | omega | (simp; done) | (simp; omega))).trans (by (first | (with_reducible assumption) | (repeat' (first | (with_reducible assumption) | (with_reducible refine keep_drew ?_) | (with_reducible refine keepf_drew ?_) | (with_reducible refine keep_alloc' (by first | omega | (simp; done) | (simp; omega)) ?_) | (with_reducible refine keepf_alloc' (by first | omega | (simp; done) | (simp; omega)) ?_) | (with_reducible refine keep_set (by dsimp only; omega) ?_) | (go_simp; done))))); have kf1w_heap_size___1___1_1 : w1.frozen? ⟨w.heap.size + 1 + 1, 1, none⟩ = false := (hb1.frozen (p := ⟨w.heap.size + 1 + 1, 1, none⟩) (by first | omega | (simp; done) | (simp; omega))).trans (by (first | (with_reducible assumption) | (repeat' (first | (with_reducible assumption) | (with_reducible refine keep_drew ?_) | (with_reducible refine keepf_drew ?_) | (with_reducible refine keep_alloc' (by first | omega | (simp; done) | (simp; omega)) ?_) | (with_reducible refine keepf_alloc' (by first | omega | (simp; done) | (simp; omega)) ?_) | (with_reducible refine keep_set (by dsimp only; omega) ?_) | (go_simp; done))))); have kc1w_heap_size___1___1_2 : w1.cell? ⟨w.heap.size + 1 + 1, 2, none⟩ = some (.int .u32 0) := (hb1.cell (p := ⟨w.heap.size + 1 + 1, 2, none⟩) (by first | omega | (simp; done) | (simp; omega))).trans (by (first | (with_reducible assumption) | (repeat' (first | (with_reducible assumption) | (with_reducible refine keep_drew ?_) | (with_reducible refine keepf_drew ?_) | (with_reducible refine keep_alloc' (by first | omega | (simp; done) | (simp; omega)) ?_) | (with_reducible refine keepf_alloc' (by first | omega | (simp; done) | (simp; omega)) ?_) | (with_reducible refine keep_set (by dsimp only; omega) ?_) | (go_simp; done))))); have kf1w_heap_size___1___1_2 : w1.frozen? ⟨w.heap.size + 1 + 1, 2, none⟩ = false := (hb1.frozen (p := ⟨w.heap.size + 1 + 1, 2, none⟩) (by first | omega | (simp; done) | (simp; omega))).trans (by (first | (with_reducible assumption) | (repeat' (first | (with_reducible assumption) | (with_reducible refine keep_drew ?_) | (with_reducible refine keepf_drew ?_) | (with_reducible refine keep_alloc' (by first | omega | (simp; done) | (simp; omega)) ?_) | (with_reducible refine keepf_alloc' (by first | omega | (simp; done) | (simp; omega)) ?_) | (with_reducible refine keep_set (by dsimp only; omega) ?_) | (go_simp; done))))); have kc1w_heap_size___1___1_3 : w1.cell? ⟨w.heap.size + 1 + 1, 3, none⟩ = some (.int .u32 0) := (hb1.cell (p := ⟨w.heap.size + 1 + 1, 3, none⟩) (by first | omega | (simp; done) | (simp; omega))).trans (by (first | (with_reducible assumption) | (repeat' (first | (with_reducible assumption) | (with_reducible refine keep_drew ?_) | (with_reducible refine keepf_drew ?_) | (with_reducible refine keep_alloc' (by first | omega | (simp; done) | (simp; omega)) ?_) | (with_reducible refine keepf_alloc' (by first | omega | (simp; done) | (simp; omega)) ?_) | (with_reducible refine keep_set (by dsimp only; omega) ?_) | (go_simp; done))))); have kf1w_heap_size___1___1_3 : w1.frozen? ⟨w.heap.size + 1 + 1, 3, none⟩ = false := (hb1.frozen (p := ⟨w.heap.size + 1 + 1, 3, none⟩) (by first | omega | (simp; done) | (simp; omega))).trans (by (first | (with_reducible assumption) | (repeat' (first | (with_reducible assumption) | (with_reducible refine keep_drew ?_) | (with_reducible refine keepf_drew ?_) | (with_reducible refine keep_alloc' (by first | omega | (simp; done) | (simp; omega)) ?_) | (with_reducible refine keepf_alloc' (by first | omega | (simp; done) | (simp; omega)) ?_) | (with_reducible refine keep_set (by dsimp only; omega) ?_) | (go_simp; done)))))
  have hown1 := hown
  rcases hown.2 with ⟨rfl, rfl⟩ | ⟨g, cap, cur, rfl, hg, hgg, _⟩
  · clear hown hown1 hkeys
    go_wp2
    refine wp_loop_rounds 1 ?_
    rw [rounds_succ]
    go_wp2
    refine bodyPost_ret (v := .tuple #[.agg #[.int .u32 b0.toNat, .int .u32 b1.toNat, .int .u32 b2.toNat, .int .u32 b3.toNat], .int .i64 0]) (by simp [results, Tryz.results273, go_sem, *]) rfl ?_
    exact ⟨rfl, by (repeat' (first | (with_reducible exact Below.refl _ _) | (with_reducible assumption) | (with_reducible refine Below.alloc ?_ ?_ _) | (with_reducible refine Below.drew ?_) | (with_reducible refine below_drewN ?_ _) | (with_reducible refine Below.setCell ?_ ?_ _) | (with_reducible refine Below.trans ?_ (Below.mono (by assumption) ?_)) | go_size))⟩
  simp only [World.size_alloc] at hown1 hkeys hg
  have hgl := (Array.getElem?_eq_some_iff.1 hgg).1
  have HO := Lib.hid hown1
  have HK := Lib.hid hkeys
  have HB := Lib.hid hb1
  have hbw : Below w.heap.size w w1 := by (repeat' (first | (with_reducible exact Below.refl _ _) | (with_reducible assumption) | (with_reducible refine Below.alloc ?_ ?_ _) | (with_reducible refine Below.drew ?_) | (with_reducible refine below_drewN ?_ _) | (with_reducible refine Below.setCell ?_ ?_ _) | (with_reducible refine Below.trans ?_ (Below.mono (by assumption) ?_)) | go_size))
  clear hown hown1 hkeys hgg hb1
  go_wp2
  go_loopw [24] (fun i wr => ∃ (j : Nat) (x : Blk), j ≤ n ∧ i = .int .i64 j ∧ Hid (Ph.mix j ⟨b0, b1, b2, b3⟩ ⟨k0, k1⟩ = x) ∧
      Box4 wr w.heap.size (.int .u32 x.a.toNat) (.int .u32 x.b.toNat) (.int .u32 x.c.toNat) (.int .u32 x.d.toNat) ∧
      Box4 wr (w.heap.size + 1 + 1) (.int .u32 0) (.int .u32 0) (.int .u32 0) (.int .u32 0) ∧ Mid (w.heap.size + 1 + 1 + 1) w1 wr ∧ w.heap.size + 1 + 1 + 1 ≤ wr.heap.size ∧ Below w.heap.size w wr) (fun i _ => n - (intOf i).toNat)
  case atStart =>
    exact ⟨0, ⟨b0, b1, b2, b3⟩, by omega, rfl, Lib.hid rfl, ⟨by go_simp, by go_simp⟩, ⟨by go_simp, by go_simp⟩, Mid.refl _ _, hz1, hbw⟩
  case round =>
    obtain ⟨j, ⟨x0, x1, x2, x3⟩, hj, rfl, hx, ⟨⟨c0, c1, c2, c3⟩, ⟨f0, f1, f2, f3⟩⟩, ⟨⟨r0, r1, r2, r3⟩, ⟨s0, s1, s2, s3⟩⟩, hm, hz, hb⟩ := hrel
    by_cases hlt : j < n
    · obtain ⟨y, hy⟩ : ∃ y, Ph.keyAt j ⟨k0, k1⟩ = y := ⟨_, rfl⟩
      obtain ⟨hBl, hBh⟩ := HK.out j hlt
      have hBs := (Array.getElem?_eq_some_iff.1 hBh).1
      have hfl := fl_at B n j hlt
      have cF : wr.cell? ⟨g, j * 2, none⟩ = some (fnF (B j)) := Mid.cell hm (by simp; omega) hgl ((World.ownsRow.cellAt HO.out (j * 2) (by omega)).trans (by rw [Nat.mul_comm]; exact hfl.1))
      have cB : wr.cell? ⟨g, j * 2 + 1, none⟩ = some (fnB (B j)) := Mid.cell hm (by simp; omega) hgl ((World.ownsRow.cellAt HO.out (j * 2 + 1) (by omega)).trans (by rw [Nat.mul_comm]; exact hfl.2))
      rw [hy] at hBh
      obtain ⟨y0, y1⟩ := y
      have HY := Lib.hid hy
      have key0 : wr.cell? ⟨B j, 0, none⟩ = some (.int .u32 y0.toNat) := Mid.cell hm (by simp; omega) hBs (by rw [cell_of_row _ _ _ _ _ _ hBh]; rfl)
      have key1 : wr.cell? ⟨B j, 1, none⟩ = some (.int .u32 y1.toNat) := Mid.cell hm (by simp; omega) hBs (by rw [cell_of_row _ _ _ _ _ _ hBh]; rfl)
      have hms := hm.size
      unfold fnF at cF
      unfold fnB at cB
      clear hy hfl hBh
      go_wp2_with fail
      refine (forth_c _ _ _ _ _ _ (B j) _ (Mid.cell (lo := 0) (w := wr) (by (repeat' (first | (with_reducible exact Mid.refl _ _) | (with_reducible assumption) | (with_reducible refine Mid.alloc ?_ _) | (with_reducible refine Mid.drew ?_) | (with_reducible refine Mid.drewN ?_ _) | (with_reducible refine Mid.setCell ?_ ?_ _) | (with_reducible refine Mid.below ?_ (by assumption)) | go_size))) (Nat.zero_le _) (by simp; omega) key0) (Mid.cell (lo := 0) (w := wr) (by (repeat' (first | (with_reducible exact Mid.refl _ _) | (with_reducible assumption) | (with_reducible refine Mid.alloc ?_ _) | (with_reducible refine Mid.drew ?_) | (with_reducible refine Mid.drewN ?_ _) | (with_reducible refine Mid.setCell ?_ ?_ _) | (with_reducible refine Mid.below ?_ (by assumption)) | go_size))) (Nat.zero_le _) (by simp; omega) key1)).mono ?_
      rintro e w2 ⟨rfl, hb2⟩
      have hz2 := hb2.size; (try simp at hz2)
      have kc2w_heap_size_0 : w2.cell? ⟨w.heap.size, 0, none⟩ = some (.int .u32 x0.toNat) := (hb2.cell (p := ⟨w.heap.size, 0, none⟩) (by first | omega | (simp; done) | (simp; omega))).trans (by (first | (with_reducible assumption) | (repeat' (first | (with_reducible assumption) | (with_reducible refine keep_drew ?_) | (with_reducible refine keepf_drew ?_) | (with_reducible refine keep_alloc' (by first | omega | (simp; done) | (simp; omega)) ?_) | (with_reducible refine keepf_alloc' (by first | omega | (simp; done) | (simp; omega)) ?_) | (with_reducible refine keep_set (by dsimp only; omega) ?_) | (go_simp; done))))); have kf2w_heap_size_0 : w2.frozen? ⟨w.heap.size, 0, none⟩ = false := (hb2.frozen (p := ⟨w.heap.size, 0, none⟩) (by first | omega | (simp; done) | (simp; omega))).trans (by (first | (with_reducible assumption) | (repeat' (first | (with_reducible assumption) | (with_reducible refine keep_drew ?_) | (with_reducible refine keepf_drew ?_) | (with_reducible refine keep_alloc' (by first | omega | (simp; done) | (simp; omega)) ?_) | (with_reducible refine keepf_alloc' (by first | omega | (simp; done) | (simp; omega)) ?_) | (with_reducible refine keep_set (by dsimp only; omega) ?_) | (go_simp; done))))); have kc2w_heap_size_1 : w2.cell? ⟨w.heap.size, 1, none⟩ = some (.int .u32 x1.toNat) := (hb2.cell (p := ⟨w.heap.size, 1, none⟩) (by first | omega | (simp; done) | (simp; omega))).trans (by (first | (with_reducible assumption) | (repeat' (first | (with_reducible assumption) | (with_reducible refine keep_drew ?_) | (with_reducible refine keepf_drew ?_) | (with_reducible refine keep_alloc' (by first | omega | (simp; done) | (simp; omega)) ?_) | (with_reducible refine keepf_alloc' (by first | omega | (simp; done) | (simp; omega)) ?_) | (with_reducible refine keep_set (by dsimp only; omega) ?_) | (go_simp; done))))); have kf2w_heap_size_1 : w2.frozen? ⟨w.heap.size, 1, none⟩ = false := (hb2.frozen (p := ⟨w.heap.size, 1, none⟩) (by first | omega | (simp; done) | (simp; omega))).trans (by (first | (with_reducible assumption) | (repeat' (first | (with_reducible assumption) | (with_reducible refine keep_drew ?_) | (with_reducible refine keepf_drew ?_) | (with_reducible refine keep_alloc' (by first | omega | (simp; done) | (simp; omega)) ?_) | (with_reducible refine keepf_alloc' (by first | omega | (simp; done) | (simp; omega)) ?_) | (with_reducible refine keep_set (by dsimp only; omega) ?_) | (go_simp; done))))); have kc2w_heap_size_2 : w2.cell? ⟨w.heap.size, 2, none⟩ = some (.int .u32 x2.toNat) := (hb2.cell (p := ⟨w.heap.size, 2, none⟩) (by first | omega | (simp; done) | (simp; omega))).trans (by (first | (with_reducible assumption) | (repeat' (first | (with_reducible assumption) | (with_reducible refine keep_drew ?_) | (with_reducible refine keepf_drew ?_) | (with_reducible refine keep_alloc' (by first | omega | (simp; done) | (simp; omega)) ?_) | (with_reducible refine keepf_alloc' (by first | omega | (simp; done) | (simp; omega)) ?_) | (with_reducible refine keep_set (by dsimp only; omega) ?_) | (go_simp; done))))); have kf2w_heap_size_2 : w2.frozen? ⟨w.heap.size, 2, none⟩ = false := (hb2.frozen (p := ⟨w.heap.size, 2, none⟩) (by first | omega | (simp; done) | (simp; omega))).trans (by (first | (with_reducible assumption) | (repeat' (first | (with_reducible assumption) | (with_reducible refine keep_drew ?_) | (with_reducible refine keepf_drew ?_) | (with_reducible refine keep_alloc' (by first | omega | (simp; done) | (simp; omega)) ?_) | (with_reducible refine keepf_alloc' (by first | omega | (simp; done) | (simp; omega)) ?_) | (with_reducible refine keep_set (by dsimp only; omega) ?_) | (go_simp; done))))); have kc2w_heap_size_3 : w2.cell? ⟨w.heap.size, 3, none⟩ = some (.int .u32 x3.toNat) := (hb2.cell (p := ⟨w.heap.size, 3, none⟩) (by first | omega | (simp; done) | (simp; omega))).trans (by (first | (with_reducible assumption) | (repeat' (first | (with_reducible assumption) | (with_reducible refine keep_drew ?_) | (with_reducible refine keepf_drew ?_) | (with_reducible refine keep_alloc' (by first | omega | (simp; done) | (simp; omega)) ?_) | (with_reducible refine keepf_alloc' (by first | omega | (simp; done) | (simp; omega)) ?_) | (with_reducible refine keep_set (by dsimp only; omega) ?_) | (go_simp; done))))); have kf2w_heap_size_3 : w2.frozen? ⟨w.heap.size, 3, none⟩ = false := (hb2.frozen (p := ⟨w.heap.size, 3, none⟩) (by first | omega | (simp; done) | (simp; omega))).trans (by (first | (with_reducible assumption) | (repeat' (first | (with_reducible assumption) | (with_reducible refine keep_drew ?_) | (with_reducible refine keepf_drew ?_) | (with_reducible refine keep_alloc' (by first | omega | (simp; done) | (simp; omega)) ?_) | (with_reducible refine keepf_alloc' (by first | omega | (simp; done) | (simp; omega)) ?_) | (with_reducible refine keep_set (by dsimp only; omega) ?_) | (go_simp; done)))))
      have kc2w_heap_size___1___1_0 : w2.cell? ⟨w.heap.size + 1 + 1, 0, none⟩ = some (.int .u32 0) := (hb2.cell (p := ⟨w.heap.size + 1 + 1, 0, none⟩) (by first | omega | (simp; done) | (simp; omega))).trans (by (first | (with_reducible assumption) | (repeat' (first | (with_reducible assumption) | (with_reducible refine keep_drew ?_) | (with_reducible refine keepf_drew ?_) | (with_reducible refine keep_alloc' (by first | omega | (simp; done) | (simp; omega)) ?_) | (with_reducible refine keepf_alloc' (by first | omega | (simp; done) | (simp; omega)) ?_) | (with_reducible refine keep_set (by dsimp only; omega) ?_) | (go_simp; done))))); have kf2w_heap_size___1___1_0 : w2.frozen? ⟨w.heap.size + 1 + 1, 0, none⟩ = false := (hb2.frozen (p := ⟨w.heap.size + 1 + 1, 0, none⟩) (by first | omega | (simp; done) | (simp; omega))).trans (by (first | (with_reducible assumption) | (repeat' (first | (with_reducible assumption) | (with_reducible refine keep_drew ?_) | (with_reducible refine keepf_drew ?_) | (with_reducible refine keep_alloc' (by first | omega | (simp; done) | (simp; omega)) ?_) | (with_reducible refine keepf_alloc' (by first | omega | (simp; done) | (simp; omega)) ?_) | (with_reducible refine keep_set (by dsimp only; omega) ?_) | (go_simp; done))))); have kc2w_heap_size___1___1_1 : w2.cell? ⟨w.heap.size + 1 + 1, 1, none⟩ = some (.int .u32 0) := (hb2.cell (p := ⟨w.heap.size + 1 + 1, 1, none⟩) (by first | omega | (simp; done) | (simp; omega))).trans (by (first | (with_reducible assumption) | (repeat' (first | (with_reducible assumption) | (with_reducible refine keep_drew ?_) | (with_reducible refine keepf_drew ?_) | (with_reducible refine keep_alloc' (by first | omega | (simp; done) | (simp; omega)) ?_) | (with_reducible refine keepf_alloc' (by first | omega | (simp; done) | (simp; omega)) ?_) | (with_reducible refine keep_set (by dsimp only; omega) ?_) | (go_simp; done))))); have kf2w_heap_size___1___1_1 : w2.frozen? ⟨w.heap.size + 1 + 1, 1, none⟩ = false := (hb2.frozen (p := ⟨w.heap.size + 1 + 1, 1, none⟩) (by first | omega | (simp; done) | (simp; omega))).trans (by (first | (with_reducible assumption) | (repeat' (first | (with_reducible assumption) | (with_reducible refine keep_drew ?_) | (with_reducible refine keepf_drew ?_) | (with_reducible refine keep_alloc' (by first | omega | (simp; done) | (simp; omega)) ?_) | (with_reducible refine keepf_alloc' (by first | omega | (simp; done) | (simp; omega)) ?_) | (with_reducible refine keep_set (by dsimp only; omega) ?_) | (go_simp; done))))); have kc2w_heap_size___1___1_2 : w2.cell? ⟨w.heap.size + 1 + 1, 2, none⟩ = some (.int .u32 0) := (hb2.cell (p := ⟨w.heap.size + 1 + 1, 2, none⟩) (by first | omega | (simp; done) | (simp; omega))).trans (by (first | (with_reducible assumption) | (repeat' (first | (with_reducible assumption) | (with_reducible refine keep_drew ?_) | (with_reducible refine keepf_drew ?_) | (with_reducible refine keep_alloc' (by first | omega | (simp; done) | (simp; omega)) ?_) | (with_reducible refine keepf_alloc' (by first | omega | (simp; done) | (simp; omega)) ?_) | (with_reducible refine keep_set (by dsimp only; omega) ?_) | (go_simp; done))))); have kf2w_heap_size___1___1_2 : w2.frozen? ⟨w.heap.size + 1 + 1, 2, none⟩ = false := (hb2.frozen (p := ⟨w.heap.size + 1 + 1, 2, none⟩) (by first | omega | (simp; done) | (simp; omega))).trans (by (first | (with_reducible assumption) | (repeat' (first | (with_reducible assumption) | (with_reducible refine keep_drew ?_) | (with_reducible refine keepf_drew ?_) | (with_reducible refine keep_alloc' (by first | omega | (simp; done) | (simp; omega)) ?_) | (with_reducible refine keepf_alloc' (by first | omega | (simp; done) | (simp; omega)) ?_) | (with_reducible refine keep_set (by dsimp only; omega) ?_) | (go_simp; done))))); have kc2w_heap_size___1___1_3 : w2.cell? ⟨w.heap.size + 1 + 1, 3, none⟩ = some (.int .u32 0) := (hb2.cell (p := ⟨w.heap.size + 1 + 1, 3, none⟩) (by first | omega | (simp; done) | (simp; omega))).trans (by (first | (with_reducible assumption) | (repeat' (first | (with_reducible assumption) | (with_reducible refine keep_drew ?_) | (with_reducible refine keepf_drew ?_) | (with_reducible refine keep_alloc' (by first | omega | (simp; done) | (simp; omega)) ?_) | (with_reducible refine keepf_alloc' (by first | omega | (simp; done) | (simp; omega)) ?_) | (with_reducible refine keep_set (by dsimp only; omega) ?_) | (go_simp; done))))); have kf2w_heap_size___1___1_3 : w2.frozen? ⟨w.heap.size + 1 + 1, 3, none⟩ = false := (hb2.frozen (p := ⟨w.heap.size + 1 + 1, 3, none⟩) (by first | omega | (simp; done) | (simp; omega))).trans (by (first | (with_reducible assumption) | (repeat' (first | (with_reducible assumption) | (with_reducible refine keep_drew ?_) | (with_reducible refine keepf_drew ?_) | (with_reducible refine keep_alloc' (by first | omega | (simp; done) | (simp; omega)) ?_) | (with_reducible refine keepf_alloc' (by first | omega | (simp; done) | (simp; omega)) ?_) | (with_reducible refine keep_set (by dsimp only; omega) ?_) | (go_simp; done)))))
      go_wp2
      go_roundw
      case rel =>
        refine ⟨j + 1, Ph.round ⟨x0, x1, x2, x3⟩ ⟨y0, y1⟩, by omega, by go_num, Lib.hid ?_, ⟨by go_simp, by go_simp⟩, ⟨by go_simp, by go_simp⟩, ?_, ?_, ?_⟩
        · rw [Ph.mix_succ, hx.out, HY.out]
        · (repeat' (first | (with_reducible exact Mid.refl _ _) | (with_reducible assumption) | (with_reducible refine Mid.alloc ?_ _) | (with_reducible refine Mid.drew ?_) | (with_reducible refine Mid.drewN ?_ _) | (with_reducible refine Mid.setCell ?_ ?_ _) | (with_reducible refine Mid.below ?_ (by assumption)) | go_size))
        · simp; omega
        · (repeat' (first | (with_reducible exact Below.refl _ _) | (with_reducible assumption) | (with_reducible refine Below.alloc ?_ ?_ _) | (with_reducible refine Below.drew ?_) | (with_reducible refine below_drewN ?_ _) | (with_reducible refine Below.setCell ?_ ?_ _) | (with_reducible refine Below.trans ?_ (Below.mono (by assumption) ?_)) | go_size))
      case measure => simp [intOf]; omega
    · obtain rfl : j = n := by omega
      go_wp2
      refine bodyPost_ret (v := .tuple #[.agg #[.int .u32 x0.toNat, .int .u32 x1.toNat, .int .u32 x2.toNat, .int .u32 x3.toNat], .int .i64 0]) (by simp [results, Tryz.results273, go_sem, r0, r1, r2, r3]) rfl ?_
      exact ⟨by rw [hx.out], by (repeat' (first | (with_reducible exact Below.refl _ _) | (with_reducible assumption) | (with_reducible refine Below.alloc ?_ ?_ _) | (with_reducible refine Below.drew ?_) | (with_reducible refine below_drewN ?_ _) | (with_reducible refine Below.setCell ?_ ?_ _) | (with_reducible refine Below.trans ?_ (Below.mono (by assumption) ?_)) | go_size))⟩
set_option maxRecDepth 100000 in
theorem out_c (b0 b1 b2 b3 k0 k1 : BitVec 32) (w : World) :
    Calls Tryz.prog 270 #[.agg #[.int .u32 b0.toNat, .int .u32 b1.toNat, .int .u32 b2.toNat, .int .u32 b3.toNat], .agg #[.int .u32 k0.toNat, .int .u32 k1.toNat]] w fun e w' =>
      e = .returned (.agg #[.int .u32 (Ph.mix 10 ⟨b0, b1, b2, b3⟩ ⟨k0, k1⟩).a.toNat, .int .u32 (Ph.mix 10 ⟨b0, b1, b2, b3⟩ ⟨k0, k1⟩).b.toNat, .int .u32 (Ph.mix 10 ⟨b0, b1, b2, b3⟩ ⟨k0, k1⟩).c.toNat, .int .u32 (Ph.mix 10 ⟨b0, b1, b2, b3⟩ ⟨k0, k1⟩).d.toNat]) ∧ Below w.heap.size w w' := by
  go_enter Tryz.func270, Tryz.ntmps270
  go_wp2_with fail
  refine (mix_ok 10 (by omega) _ _ _ _ _ _ _).mono ?_
  rintro e w1 ⟨rfl, hb1⟩
  have hz1 := hb1.size; (try simp at hz1)
  have kc1w_heap_size___1___1_0 : w1.cell? ⟨w.heap.size + 1 + 1, 0, none⟩ = some (.int .u32 0) := (hb1.cell (p := ⟨w.heap.size + 1 + 1, 0, none⟩) (by first | omega | (simp; done) | (simp; omega))).trans (by (first | (with_reducible assumption) | (repeat' (first | (with_reducible assumption) | (with_reducible refine keep_drew ?_) | (with_reducible refine keepf_drew ?_) | (with_reducible refine keep_alloc' (by first | omega | (simp; done) | (simp; omega)) ?_) | (with_reducible refine keepf_alloc' (by first | omega | (simp; done) | (simp; omega)) ?_) | (with_reducible refine keep_set (by dsimp only; omega) ?_) | (go_simp; done))))); have kf1w_heap_size___1___1_0 : w1.frozen? ⟨w.heap.size + 1 + 1, 0, none⟩ = false := (hb1.frozen (p := ⟨w.heap.size + 1 + 1, 0, none⟩) (by first | omega | (simp; done) | (simp; omega))).trans (by (first | (with_reducible assumption) | (repeat' (first | (with_reducible assumption) | (with_reducible refine keep_drew ?_) | (with_reducible refine keepf_drew ?_) | (with_reducible refine keep_alloc' (by first | omega | (simp; done) | (simp; omega)) ?_) | (with_reducible refine keepf_alloc' (by first | omega | (simp; done) | (simp; omega)) ?_) | (with_reducible refine keep_set (by dsimp only; omega) ?_) | (go_simp; done))))); have kc1w_heap_size___1___1_1 : w1.cell? ⟨w.heap.size + 1 + 1, 1, none⟩ = some (.int .u32 0) := (hb1.cell (p := ⟨w.heap.size + 1 + 1, 1, none⟩) (by first | omega | (simp; done) | (simp; omega))).trans (by (first | (with_reducible assumption) | (repeat' (first | (with_reducible assumption) | (with_reducible refine keep_drew ?_) | (with_reducible refine keepf_drew ?_) | (with_reducible refine keep_alloc' (by first | omega | (simp; done) | (simp; omega)) ?_) | (with_reducible refine keepf_alloc' (by first | omega | (simp; done) | (simp; omega)) ?_) | (with_reducible refine keep_set (by dsimp only; omega) ?_) | (go_simp; done))))); have kf1w_heap_size___1___1_1 : w1.frozen? ⟨w.heap.size + 1 + 1, 1, none⟩ = false := (hb1.frozen (p := ⟨w.heap.size + 1 + 1, 1, none⟩) (by first | omega | (simp; done) | (simp; omega))).trans (by (first | (with_reducible assumption) | (repeat' (first | (with_reducible assumption) | (with_reducible refine keep_drew ?_) | (with_reducible refine keepf_drew ?_) | (with_reducible refine keep_alloc' (by first | omega | (simp; done) | (simp; omega)) ?_) | (with_reducible refine keepf_alloc' (by first | omega | (simp; done) | (simp; omega)) ?_) | (with_reducible refine keep_set (by dsimp only; omega) ?_) | (go_simp; done))))); have kc1w_heap_size___1___1_2 : w1.cell? ⟨w.heap.size + 1 + 1, 2, none⟩ = some (.int .u32 0) := (hb1.cell (p := ⟨w.heap.size + 1 + 1, 2, none⟩) (by first | omega | (simp; done) | (simp; omega))).trans (by (first | (with_reducible assumption) | (repeat' (first | (with_reducible assumption) | (with_reducible refine keep_drew ?_) | (with_reducible refine keepf_drew ?_) | (with_reducible refine keep_alloc' (by first | omega | (simp; done) | (simp; omega)) ?_) | (with_reducible refine keepf_alloc' (by first | omega | (simp; done) | (simp; omega)) ?_) | (with_reducible refine keep_set (by dsimp only; omega) ?_) | (go_simp; done))))); have kf1w_heap_size___1___1_2 : w1.frozen? ⟨w.heap.size + 1 + 1, 2, none⟩ = false := (hb1.frozen (p := ⟨w.heap.size + 1 + 1, 2, none⟩) (by first | omega | (simp; done) | (simp; omega))).trans (by (first | (with_reducible assumption) | (repeat' (first | (with_reducible assumption) | (with_reducible refine keep_drew ?_) | (with_reducible refine keepf_drew ?_) | (with_reducible refine keep_alloc' (by first | omega | (simp; done) | (simp; omega)) ?_) | (with_reducible refine keepf_alloc' (by first | omega | (simp; done) | (simp; omega)) ?_) | (with_reducible refine keep_set (by dsimp only; omega) ?_) | (go_simp; done))))); have kc1w_heap_size___1___1_3 : w1.cell? ⟨w.heap.size + 1 + 1, 3, none⟩ = some (.int .u32 0) := (hb1.cell (p := ⟨w.heap.size + 1 + 1, 3, none⟩) (by first | omega | (simp; done) | (simp; omega))).trans (by (first | (with_reducible assumption) | (repeat' (first | (with_reducible assumption) | (with_reducible refine keep_drew ?_) | (with_reducible refine keepf_drew ?_) | (with_reducible refine keep_alloc' (by first | omega | (simp; done) | (simp; omega)) ?_) | (with_reducible refine keepf_alloc' (by first | omega | (simp; done) | (simp; omega)) ?_) | (with_reducible refine keep_set (by dsimp only; omega) ?_) | (go_simp; done))))); have kf1w_heap_size___1___1_3 : w1.frozen? ⟨w.heap.size + 1 + 1, 3, none⟩ = false := (hb1.frozen (p := ⟨w.heap.size + 1 + 1, 3, none⟩) (by first | omega | (simp; done) | (simp; omega))).trans (by (first | (with_reducible assumption) | (repeat' (first | (with_reducible assumption) | (with_reducible refine keep_drew ?_) | (with_reducible refine keepf_drew ?_) | (with_reducible refine keep_alloc' (by first | omega | (simp; done) | (simp; omega)) ?_) | (with_reducible refine keepf_alloc' (by first | omega | (simp; done) | (simp; omega)) ?_) | (with_reducible refine keep_set (by dsimp only; omega) ?_) | (go_simp; done)))))
  go_wp2
  refine bodyPost_ret (v := .agg #[.int .u32 (Ph.mix 10 ⟨b0, b1, b2, b3⟩ ⟨k0, k1⟩).a.toNat, .int .u32 (Ph.mix 10 ⟨b0, b1, b2, b3⟩ ⟨k0, k1⟩).b.toNat, .int .u32 (Ph.mix 10 ⟨b0, b1, b2, b3⟩ ⟨k0, k1⟩).c.toNat, .int .u32 (Ph.mix 10 ⟨b0, b1, b2, b3⟩ ⟨k0, k1⟩).d.toNat]) (by simp [results, Tryz.results270, go_sem, *]) rfl ?_
  exact ⟨rfl, by (repeat' (first | (with_reducible exact Below.refl _ _) | (with_reducible assumption) | (with_reducible refine Below.alloc ?_ ?_ _) | (with_reducible refine Below.drew ?_) | (with_reducible refine below_drewN ?_ _) | (with_reducible refine Below.setCell ?_ ?_ _) | (with_reducible refine Below.trans ?_ (Below.mono (by assumption) ?_)) | go_size))⟩
section
open Go Go.RowKit Go.ChangeMaps
namespace Tb
def MapIs (o : Obj) (l : List (Int × Value)) : Prop := ∃ es clock, o = .map es clock ∧ es.toList.map (fun e => (e.key, e.val)) = l.map (fun q => (Value.int .i64 q.1, q.2))
def upd (K : Nat → Option Obj) (r : Nat) (o : Obj) : Nat → Option Obj := fun k => if k = r then some o else K k
def K2 (r4 r5 : Nat) (o4 o5 : Obj) : Nat → Option Obj := fun k => if k = r4 then some o4 else if k = r5 then some o5 else none
def ixs (h : Int) : List (Int × Value) → Nat → Option (Nat × Value)
  | [], _ => none
  | q :: l, i => if h == q.1 then some (i, q.2) else ixs h l (i + 1)
theorem fnd_ixs (h : Int) : ∀ (es : List MapEntry) (l : List (Int × Value)) (i : Nat), es.map (fun e => (e.key, e.val)) = l.map (fun q => (Value.int .i64 q.1, q.2)) → Instr.findNow (.int .i64) (.int .i64 h) es i = some (ixs h l i)
  | [], [], i, _ => rfl
  | [], _ :: _, i, e => by cases e
  | _ :: _, [], i, e => by cases e
  | a :: es, q :: l, i, e => by
    rw [List.map_cons, List.map_cons, List.cons.injEq, Prod.mk.injEq] at e
    obtain ⟨⟨e1, e2⟩, e3⟩ := e
    unfold Instr.findNow ixs
    rw [e1]
    simp only [Instr.sameNow, if_true]
    cases hq : h == q.1
    · rw [if_neg (by decide)]; exact fnd_ixs h es l (i + 1) e3
    · rw [if_pos rfl, e2]
def lk (l : List (Int × Value)) (h : Int) (z : Value) : Value × Bool := match l.find? (fun q => h == q.1) with
  | some q => (q.2, true)
  | none => (z, false)
theorem ixs_find (h : Int) (z : Value) : ∀ (l : List (Int × Value)) (i : Nat), (match ixs h l i with | some (_, v) => (v, true) | none => (z, false)) = lk l h z
  | [], _ => rfl
  | q :: l, i => by
    unfold ixs lk
    rw [List.find?_cons]
    cases hq : h == q.1
    · exact ixs_find h z l (i + 1)
    · rfl
theorem ixs_none (h : Int) : ∀ (l : List (Int × Value)) (i : Nat), (l.find? (fun q => h == q.1)) = none → ixs h l i = none
  | [], _, _ => rfl
  | q :: l, i, e => by
    rw [List.find?_cons] at e
    unfold ixs
    cases hq : h == q.1
    · rw [hq] at e; exact ixs_none h l (i + 1) e
    · rw [hq] at e; cases e
def hm (l : List R) : List (Int × Value) := l.map fun r => (r.1, .int .u64 (r.2.toNat : Nat))
def gm (l : List Int) : List (Int × Value) := l.map fun z => (z, .int .i64 1)
end Tb
namespace Sx
section
variable {P : Program} {ds : List Deferred} {w0 w : World} {a : Act} {o : Oper} {n : Nat} {kv : List (Nat × Value)} {bs : List Bx} {rs : List Rx} {K : Nat → Option Obj}
theorem Own.newKeep (h : Own w0 w bs rs K) (ob : Obj) : Own w0 (w.alloc ob) bs rs (Tb.upd K w.heap.size ob) := by
  have q := h.call ((Below.refl w.heap.size w).alloc (Nat.le_refl _) ob)
  refine ⟨q.below, q.box, q.nd, q.row, q.rb, q.rr, fun k o hk => ?_⟩
  unfold Tb.upd at hk
  split at hk
  · rename_i e
    cases hk
    subst e
    exact ⟨heap_alloc_new w _, h.below.size, fun i vs hi => Nat.lt_irrefl _ (h.box i _ vs hi).2.2, fun i r hi ho hg => Nat.lt_irrefl _ (h.rowLt hi ho hg).2⟩
  · exact q.kp k o hk
theorem Own.setKeep (h : Own w0 w bs rs K) {r : Nat} {ob ob' : Obj} (hk : K r = some ob) {w' : World} (hg : w.grownBy w' (some r)) (hr : w'.heap[r]? = some ob') : Own w0 w' bs rs (Tb.upd K r ob') := by
  obtain ⟨h1, h2, h3, h4⟩ := h.kp r ob hk
  refine ⟨Below.grown h.below hg h.below.size (fun k e => by cases e; exact h2), fun i b vs hi => ?_, h.nd, fun i s hi ho => World.ownsRow.kept (h.row i s hi ho) hg (Or.inr (h4 i s hi ho)), h.rb, h.rr, fun k o hk' => ?_⟩
  · obtain ⟨a1, a2, a3⟩ := h.box i b vs hi
    exact ⟨a1.lift (fun hl => hg.block _ hl (fun e => by cases e; exact h3 i vs hi)), a2, Nat.lt_of_lt_of_le a3 hg.size⟩
  · unfold Tb.upd at hk'
    split at hk'
    · rename_i e
      cases hk'; subst e
      exact ⟨hr, h2, h3, h4⟩
    · rename_i e
      obtain ⟨b1, b2, b3, b4⟩ := h.kp k o hk'
      exact ⟨(hg.block k (kplt b1) (fun e' => e (by cases e'; rfl))).trans b1, b2, b3, b4⟩
theorem run_check {t : TypeId} {h : Int} {b : Bool} (ht : P.underlying t = some (.int .i64)) : (Instr.checkKey b 10000 t (.int .i64 h)).run P w = .ok () w := by
  unfold Instr.checkKey
  simp [run_underlying ht]
theorem run_find {t : TypeId} {h : Int} {es : List MapEntry} {l : List (Int × Value)} (ht : P.underlying t = some (.int .i64)) (e : es.map (fun e => (e.key, e.val)) = l.map (fun q => (Value.int .i64 q.1, q.2))) : (Instr.findKey t (.int .i64 h) es).run P w = .ok (Tb.ixs h l 0) w := by
  unfold Instr.findKey
  simp [run_underlying ht, Tb.fnd_ixs h es l 0 e]
theorem d_lookup {m x : Operand} {t kt et : TypeId} {r : Nat} {ob : Obj} {l : List (Int × Value)} {h : Int} {z v : Value} {b : Bool} (hm : P.underlying t = some (.map kt et)) (ht : P.underlying kt = some (.int .i64)) (hz : ∀ w : World, (zeroValue et).run P w = .ok z w) (F : Fr n a kv ds) (H : Own w0 w bs rs K) (ho : o.op = .lookup t m x true)
    (hx : ev kv m = some (.map (some r))) (hy : ev kv x = some (.int .i64 h)) (hk : K r = some ob) (hl : Tb.MapIs ob l) (hv : Tb.lk l h z = (v, b)) : Does P o a w (fun y w' => y = .tuple #[v, .bool b] ∧ w' = w) := by
  obtain ⟨es, clock, rfl, hes⟩ := hl
  have hh := (H.kp r _ hk).1
  refine does_run ?_
  have hr : (Instr.lookup t (.map (some r)) (.int .i64 h) true).run P w = .ok (.tuple #[v, .bool b]) w := by
    have hf := Tb.ixs_find h z l 0
    rw [hv] at hf
    cases hi : Tb.ixs h l 0 with
    | none => rw [hi] at hf; cases hf; simp [Instr.lookup, run_underlying hm, MapKept.run_getObj_map hh, run_check ht, run_find ht hes, hi, hz]
    | some q => rw [hi] at hf; cases hf; simp [Instr.lookup, run_underlying hm, MapKept.run_getObj_map hh, run_check ht, run_find ht hes, hi]
  unfold execOp; rw [ho]; simp only [F.ev hx, F.ev hy, Sem.run_bind, hr]; rfl
theorem d_makeMap {t : TypeId} (F : Fr n a kv ds) (H : Own w0 w bs rs K) (ho : o.op = .makeMap t none) : Does P o a w (fun y w' => ∃ r, y = .map (some r) ∧ K r = none ∧ Own w0 w' bs rs (Tb.upd K r (.map #[] 0))) := by
  refine (does_run (v := .map (some w.heap.size)) (w' := w.alloc (.map #[] 0)) ?_).mono ?_
  · unfold execOp; rw [ho]; rfl
  · rintro y w' ⟨rfl, rfl⟩
    refine ⟨_, rfl, ?_, H.newKeep _⟩
    cases hk : K w.heap.size with
    | none => rfl
    | some ob => exact absurd (kplt (H.kp _ _ hk).1) (Nat.lt_irrefl _)
end
end Sx
end
section
open Go Go.RowKit Go.ChangeMaps
namespace Sx
section
variable {P : Program} {w0 w : World} {bs bs' : List Bx} {rs rs' : List Rx} {K : Nat → Option Obj}
theorem Own.sel (h : Own w0 w bs rs K) (f g : Nat → Nat) (hf : ∀ i j, i < bs'.length → j < bs'.length → f i = f j → i = j) (hg : ∀ i j, i < rs'.length → j < rs'.length → g i = g j → i = j)
    (hb : ∀ i p, bs'[i]? = some p → bs[f i]? = some p) (hr : ∀ i p, rs'[i]? = some p → rs[g i]? = some p) : Own w0 w bs' rs' K := by
  have lt : ∀ {α : Type} {l : List α} {i : Nat} {p : α}, l[i]? = some p → i < l.length := fun h => (List.getElem?_eq_some_iff.1 h).1
  refine ⟨h.below, fun i b vs hi => h.box _ b vs (hb _ _ hi), fun i j b vs us hi hj => hf i j (lt hi) (lt hj) (h.nd _ _ b vs us (hb _ _ hi) (hb _ _ hj)), fun i r hi ho => h.row _ r (hr _ _ hi) ho, fun i j b vs r hi hj ho => h.rb _ _ b vs r (hb _ _ hi) (hr _ _ hj) ho,
    fun i j g' r s hi hj ho hs h1 h2 => hg i j (lt hi) (lt hj) (h.rr _ _ g' r s (hr _ _ hi) (hr _ _ hj) ho hs h1 h2), fun k o hk => ?_⟩
  obtain ⟨a, b, c, d⟩ := h.kp k o hk
  exact ⟨a, b, fun i vs hi => c _ vs (hb _ _ hi), fun i r hi ho => d _ r (hr _ _ hi) ho⟩
theorem pick_at {α : Type} {xs ys r : List α} {is : List Nat} (hc : is.map (fun i => xs[i]?) = ys.map some) (i : Nat) (p : α) (h : (ys ++ r)[i]? = some p) :
    (xs ++ r)[if i < ys.length then is.getD i 0 else xs.length + (i - ys.length)]? = some p := by
  by_cases hi : i < ys.length
  · rw [if_pos hi]
    rw [List.getElem?_append_left hi] at h
    have h1 : (ys.map some)[i]? = some (some p) := by rw [List.getElem?_map, h]; rfl
    rw [← hc, List.getElem?_map] at h1
    cases hj : is[i]? with
    | none => rw [hj] at h1; cases h1
    | some j =>
      rw [hj] at h1
      have h2 : xs[j]? = some p := Option.some.inj h1
      rw [List.getD_eq_getElem?_getD, hj]
      show (xs ++ r)[j]? = some p
      rw [List.getElem?_append_left (List.getElem?_eq_some_iff.1 h2).1]; exact h2
  · rw [if_neg hi]
    rw [List.getElem?_append_right (by omega)] at h
    rw [List.getElem?_append_right (by omega), show xs.length + (i - ys.length) - xs.length = i - ys.length from by omega]; exact h
theorem pick_inj {α : Type} {xs ys : List α} {is : List Nat} (hn : is.Nodup) (hc : is.map (fun i => xs[i]?) = ys.map some) (i j : Nat) (h : (if i < ys.length then is.getD i 0 else xs.length + (i - ys.length)) = (if j < ys.length then is.getD j 0 else xs.length + (j - ys.length))) : i = j := by
  have hl : is.length = ys.length := by have := congrArg List.length hc; simpa using this
  have at_ : ∀ k, k < ys.length → ∃ q, is[k]? = some q ∧ q < xs.length := by
    intro k hk
    have h1 : (is.map (fun i => xs[i]?))[k]? = some (some ys[k]) := by rw [hc, List.getElem?_map, List.getElem?_eq_getElem hk]; rfl
    rw [List.getElem?_map] at h1
    cases hq : is[k]? with
    | none => rw [hq] at h1; cases h1
    | some q =>
      rw [hq] at h1
      exact ⟨q, rfl, (List.getElem?_eq_some_iff.1 (Option.some.inj h1)).1⟩
  by_cases hi : i < ys.length <;> by_cases hj : j < ys.length
  · rw [if_pos hi, if_pos hj] at h
    obtain ⟨p, hp, _⟩ := at_ i hi
    obtain ⟨q, hq, _⟩ := at_ j hj
    rw [List.getD_eq_getElem?_getD, List.getD_eq_getElem?_getD, hp, hq] at h
    have e : p = q := h
    subst e
    exact (List.getElem?_inj (List.getElem?_eq_some_iff.1 hp).1 hn).1 (hp.trans hq.symm)
  · rw [if_pos hi, if_neg hj] at h
    obtain ⟨p, hp, hlt⟩ := at_ i hi
    rw [List.getD_eq_getElem?_getD, hp] at h
    have e : p = xs.length + (j - ys.length) := h
    omega
  · rw [if_neg hi, if_pos hj] at h
    obtain ⟨p, hp, hlt⟩ := at_ j hj
    rw [List.getD_eq_getElem?_getD, hp] at h
    have e : xs.length + (i - ys.length) = p := h
    omega
  · rw [if_neg hi, if_neg hj] at h; omega
theorem Own.pick (xs : List Bx) (us : List Rx) (h : Own w0 w (xs ++ bs) (us ++ rs) K) (is js : List Nat) (ys : List Bx) (vs : List Rx) (hn : is.Nodup) (hm : js.Nodup) (hc : is.map (fun i => xs[i]?) = ys.map some) (ht : js.map (fun i => us[i]?) = vs.map some) : Own w0 w (ys ++ bs) (vs ++ rs) K :=
  h.sel _ _ (fun i j _ _ => pick_inj hn hc i j) (fun i j _ _ => pick_inj hm ht i j) (pick_at hc) (pick_at ht)
def okIx (n : Nat) (is : List Nat) : Bool := decide is.Nodup && is.all fun i => Nat.blt i n
theorem pickN_at {α : Type} {l : List α} {n : Nat} {is : List Nat} (ha : ∀ i ∈ is, i < n ∧ i < l.length) (i : Nat) (p : α) (h : (is.filterMap (fun i => l[i]?) ++ l.drop n)[i]? = some p) :
    l[if i < is.length then is.getD i 0 else n + (i - is.length)]? = some p ∧ (is.filterMap (fun i => l[i]?)).length = is.length := by
  have e : is.filterMap (fun i => l[i]?) = is.attach.map (fun i => l[i.1]'(ha i.1 i.2).2) := by
    clear h
    induction is with
    | nil => rfl
    | cons a r ih =>
      have h1 := (ha a (List.mem_cons_self ..)).2
      rw [List.filterMap_cons, List.getElem?_eq_getElem h1]
      simp only [List.attach_cons, List.map_cons, List.map_map]
      rw [ih (fun i hi => ha i (List.mem_cons_of_mem _ hi))]
      rfl
  have hl : (is.filterMap (fun i => l[i]?)).length = is.length := by rw [e]; simp
  refine ⟨?_, hl⟩
  by_cases hi : i < is.length
  · rw [if_pos hi]
    rw [List.getElem?_append_left (by omega), e] at h
    simp only [List.getElem?_map, List.getElem?_attach] at h
    have hx : is[i]? = some is[i] := List.getElem?_eq_getElem hi
    rw [List.getD_eq_getElem?_getD, hx]
    show l[is[i]]? = some p
    have h2 : (is.attach.map (fun i => l[i.1]'(ha i.1 i.2).2))[i]? = some p := by simpa using h
    rw [List.getElem?_map, List.getElem?_eq_getElem (by simpa using hi)] at h2
    simp at h2
    rw [List.getElem?_eq_getElem (ha _ (List.getElem_mem hi)).2, h2]
  · rw [if_neg hi]
    rw [List.getElem?_append_right (by omega), List.getElem?_drop, hl] at h
    exact h
theorem pickN_inj {n : Nat} {is : List Nat} (hn : is.Nodup) (ha : ∀ i ∈ is, i < n) (i j : Nat) (h : (if i < is.length then is.getD i 0 else n + (i - is.length)) = (if j < is.length then is.getD j 0 else n + (j - is.length))) : i = j := by
  have at_ : ∀ k (hk : k < is.length), is.getD k 0 = is[k] ∧ is[k] < n := fun k hk => ⟨by simp [List.getD_eq_getElem?_getD, hk], ha _ (List.getElem_mem hk)⟩
  by_cases hi : i < is.length <;> by_cases hj : j < is.length
  · rw [if_pos hi, if_pos hj, (at_ i hi).1, (at_ j hj).1] at h
    exact (List.getElem?_inj hi hn).1 (by rw [List.getElem?_eq_getElem hi, List.getElem?_eq_getElem hj, h])
  · rw [if_pos hi, if_neg hj, (at_ i hi).1] at h; have := (at_ i hi).2; omega
  · rw [if_neg hi, if_pos hj, (at_ j hj).1] at h; have := (at_ j hj).2; omega
  · rw [if_neg hi, if_neg hj] at h; omega
theorem Own.pickN (h : Own w0 w bs rs K) (n m : Nat) (is js : List Nat) (hn : okIx n is = true := by decide) (hm : okIx m js = true := by decide) (hl : Nat.ble n bs.length = true := by rfl) (hk : Nat.ble m rs.length = true := by rfl) :
    Own w0 w (is.filterMap (fun i => bs[i]?) ++ bs.drop n) (js.filterMap (fun i => rs[i]?) ++ rs.drop m) K := by
  unfold okIx at hn hm
  rw [Bool.and_eq_true] at hn hm
  have h1 : ∀ i ∈ is, i < n ∧ i < bs.length := fun i hi => by have := List.all_eq_true.1 hn.2 i hi; have := Nat.le_of_ble_eq_true hl; simp [Nat.blt_eq] at *; omega
  have h2 : ∀ i ∈ js, i < m ∧ i < rs.length := fun i hi => by have := List.all_eq_true.1 hm.2 i hi; have := Nat.le_of_ble_eq_true hk; simp [Nat.blt_eq] at *; omega
  exact h.sel _ _ (fun i j _ _ => pickN_inj (of_decide_eq_true hn.1) (fun i hi => (h1 i hi).1) i j) (fun i j _ _ => pickN_inj (of_decide_eq_true hm.1) (fun i hi => (h2 i hi).1) i j)
    (fun i p hp => (pickN_at h1 i p hp).1) (fun i p hp => (pickN_at h2 i p hp).1)
theorem Own.rowBox {i g m c z : Nat} {E : TypeId} {xs : List Value} (h : Own w0 w bs rs K) (hi : rs[i]? = some ⟨true, .slice (some ⟨g, 0, none⟩) m c, E, z, m, xs⟩) : Own w0 w ((true, g, xs) :: bs) (rs.set i ⟨false, undef, E, z, 0, []⟩) K := by
  have hr : w.ownsRow w0.heap.size E z (.slice (some ⟨g, 0, none⟩) m c) m xs := h.row i _ hi rfl
  have old : ∀ {j r}, (rs.set i ⟨false, undef, E, z, 0, []⟩)[j]? = some r → r.on = true → j ≠ i ∧ rs[j]? = some r := by
    intro j r hj ho
    by_cases e : j = i
    · subst e
      rw [List.getElem?_set_self (List.getElem?_eq_some_iff.1 hi).1] at hj
      cases hj; cases ho
    · rw [List.getElem?_set_ne (Ne.symm e)] at hj; exact ⟨e, hj⟩
  have hg : w0.heap.size ≤ g ∧ g < w.heap.size := by
    rcases hr.2 with ⟨e, _⟩ | ⟨g', cap, cur, e, h1, h2, _⟩
    · cases e
    · cases e; exact ⟨h1, (Array.getElem?_eq_some_iff.1 h2).1⟩
  have own : (Value.slice (some ⟨g, 0, none⟩) m c).ownBlock = some g := rfl
  refine ⟨h.below, fun j b vs hj => ?_, fun j k b vs us hj hk => ?_, fun j r hj ho => h.row j r (old hj ho).2 ho, fun j k b vs r hj hk ho => ?_, fun j k g' r s hj hk ho hs h1 h2 => h.rr j k g' r s (old hj ho).2 (old hk hs).2 ho hs h1 h2, fun k o hk => ?_⟩
  · cases j with
    | zero =>
      cases hj
      refine ⟨fun j u hu => ⟨?_, World.ownsRow.frozenAt hr j⟩, hg⟩
      have hl := (List.getElem?_eq_some_iff.1 hu).1
      rw [World.ownsRow.cellAt hr j (by have := hr.1; omega), hu]
    | succ j => exact h.box j b vs hj
  · cases j with
    | zero => cases k with
      | zero => rfl
      | succ k => cases hj; exact absurd own (h.rb k i g us _ hk hi rfl)
    | succ j => cases k with
      | zero => cases hk; exact absurd own (h.rb j i g vs _ hj hi rfl)
      | succ k => rw [h.nd j k b vs us hj hk]
  · obtain ⟨hne, hk'⟩ := old hk ho
    cases j with
    | zero => cases hj; exact fun e => hne (h.rr k i g r _ hk' hi ho rfl e own)
    | succ j => exact h.rb j k b vs r hj hk' ho
  · obtain ⟨a, b, c', d⟩ := h.kp k o hk
    refine ⟨a, b, fun j vs hj => ?_, fun j r hj ho => d j r (old hj ho).2 ho⟩
    cases j with
    | zero => cases hj; exact d i _ hi rfl own
    | succ j => exact c' j vs hj
theorem Own.unkeep1 {r : Nat} {o : Obj} (h : Own w0 w bs rs (Tb.upd K r o)) (hk : K r = none) : Own w0 w bs rs K :=
  ⟨h.below, h.box, h.nd, h.row, h.rb, h.rr, fun k ob e => h.kp k ob (by
    unfold Tb.upd
    by_cases hkr : k = r
    · rw [hkr, hk] at e; cases e
    · rw [if_neg hkr]; exact e)⟩
theorem Own.padG (h : Own w0 w bs rs K) (cs : List Bx) (ts : List Rx) (hc : cs.all (fun c => !c.1) = true := by rfl) (ht : ts.all (fun t => !t.on) = true := by rfl) : Own w0 w (cs ++ bs) (ts ++ rs) K := by
  have kb : ∀ {i : Nat} {b : Nat} {vs : List Value}, (cs ++ bs)[i]? = some (true, b, vs) → cs.length ≤ i ∧ bs[i - cs.length]? = some (true, b, vs) := by
    intro i b vs hi
    by_cases hl : i < cs.length
    · rw [List.getElem?_append_left hl] at hi
      have := List.all_eq_true.1 hc _ (List.mem_of_getElem? hi)
      simp at this
    · rw [List.getElem?_append_right (by omega)] at hi; exact ⟨by omega, hi⟩
  have kr : ∀ {i : Nat} {r : Rx}, (ts ++ rs)[i]? = some r → r.on = true → ts.length ≤ i ∧ rs[i - ts.length]? = some r := by
    intro i r hi ho
    by_cases hl : i < ts.length
    · rw [List.getElem?_append_left hl] at hi
      have := List.all_eq_true.1 ht _ (List.mem_of_getElem? hi)
      rw [ho] at this; cases this
    · rw [List.getElem?_append_right (by omega)] at hi; exact ⟨by omega, hi⟩
  refine ⟨h.below, fun i b vs hi => h.box _ b vs (kb hi).2, fun i j b vs us hi hj => ?_, fun i r hi ho => h.row _ r (kr hi ho).2 ho, fun i j b vs r hi hj ho => h.rb _ _ b vs r (kb hi).2 (kr hj ho).2 ho, fun i j g r s hi hj ho hs h1 h2 => ?_, fun k o hk => ?_⟩
  · have := h.nd _ _ b vs us (kb hi).2 (kb hj).2
    have := (kb hi).1; have := (kb hj).1; omega
  · have := h.rr _ _ g r s (kr hi ho).2 (kr hj hs).2 ho hs h1 h2
    have := (kr hi ho).1; have := (kr hj hs).1; omega
  · obtain ⟨a, b, c, d⟩ := h.kp k o hk
    exact ⟨a, b, fun i vs hi => c _ vs (kb hi).2, fun i r hi ho => d _ r (kr hi ho).2 ho⟩
theorem Own.xs {i : Nat} {on : Bool} {v : Value} {E : TypeId} {z m : Nat} {xs ys : List Value} (h : Own w0 w bs rs K) (hi : rs[i]? = some ⟨on, v, E, z, m, xs⟩) (e : xs = ys) : Own w0 w bs (rs.set i ⟨on, v, E, z, m, ys⟩) K := by
  subst e
  have : rs.set i ⟨on, v, E, z, m, xs⟩ = rs := by
    refine List.ext_getElem? fun j => ?_
    by_cases hj : i = j
    · subst hj; rw [List.getElem?_set_self (List.getElem?_eq_some_iff.1 hi).1, hi]
    · rw [List.getElem?_set_ne hj]
  rw [this]; exact h
end
section
variable {P : Program} {ds : List Deferred} {ops : Array Oper} {Q : Exit → Act → World → Prop} {w0 w : World} {a : Act} {o : Oper} {rest : List Oper} {n : Nat} {kv : List (Nat × Value)} {bs : List Bx} {rs : List Rx} {K : Nat → Option Obj}
theorem sX {d : Nat} {R : Value → World → Prop} (F : Fr n a kv ds) (D : Does P o a w R) (hg : Region.wanted o (yielded ops a.tmps) = true) (hd : o.dst = some d) (hn : d < n)
    (h : ∀ x w', R x w' → ∀ a', Fr n a' ((d, x) :: kv) ds → wpList P ops Q rest a' w') : wpList P ops Q (o :: rest) a w := by
  refine step hg D ?_
  intro x w' r
  rw [hd]
  exact h x w' r _ (F.put hn _)
theorem sX0 {R : Value → World → Prop} (F : Fr n a kv ds) (D : Does P o a w R) (hg : Region.wanted o (yielded ops a.tmps) = true) (hd : o.dst = none)
    (h : ∀ x w', R x w' → ∀ a', Fr n a' kv ds → wpList P ops Q rest a' w') : wpList P ops Q (o :: rest) a w := by
  refine step hg D ?_
  intro x w' r
  rw [hd]
  exact h x w' r _ (F.put0 _)
end
end Sx
end
section
open Go Go.RowKit Go.ChangeMaps
namespace Tb
def ixB (h : Bool) : List (Bool × Value) → Nat → Option (Nat × Value)
  | [], _ => none
  | q :: l, i => if (h == q.1) = true then some (i, q.2) else ixB h l (i + 1)
theorem fnd_ixB (h : Bool) : ∀ (es : List MapEntry) (l : List (Bool × Value)) (i : Nat), es.map (fun e => (e.key, e.val)) = l.map (fun q => (Value.bool q.1, q.2)) → Instr.findNow .bool (.bool h) es i = some (ixB h l i)
  | [], [], i, _ => rfl
  | [], _ :: _, i, e => by cases e
  | _ :: _, [], i, e => by cases e
  | a :: es, q :: l, i, e => by
    rw [List.map_cons, List.map_cons, List.cons.injEq, Prod.mk.injEq] at e
    obtain ⟨⟨e1, e2⟩, e3⟩ := e
    unfold Instr.findNow ixB
    rw [e1]
    simp only [Instr.sameNow]
    cases hq : h == q.1
    · rw [if_neg (by decide)]; exact fnd_ixB h es l (i + 1) e3
    · rw [if_pos rfl, e2]
theorem ixB_none (h : Bool) : ∀ (l : List (Bool × Value)) (i : Nat), l.find? (fun q => h == q.1) = none → ixB h l i = none
  | [], _, _ => rfl
  | q :: l, i, e => by
    rw [List.find?_cons] at e
    unfold ixB
    cases hq : h == q.1
    · rw [hq] at e; rw [if_neg (by decide)]; exact ixB_none h l (i + 1) e
    · rw [hq] at e; cases e
theorem ixB_some (h : Bool) {x : Bool × Value} : ∀ (l : List (Bool × Value)) (i : Nat), l.find? (fun q => h == q.1) = some x → ∃ k, ixB h l i = some (k, x.2)
  | [], _, e => by cases e
  | q :: l, i, e => by
    rw [List.find?_cons] at e
    unfold ixB
    cases hq : h == q.1
    · rw [hq] at e; rw [if_neg (by decide)]; exact ixB_some h l (i + 1) e
    · rw [hq] at e; cases e; exact ⟨i, by rw [if_pos rfl]⟩
def MB (ob : Obj) (p q : BitVec 64) (f t : Bool) : Prop := ∃ es clock, ob = .map es clock ∧ ∃ l : List (Bool × Value), es.toList.map (fun e => (e.key, e.val)) = l.map (fun x => (Value.bool x.1, x.2)) ∧ l.find? (fun x => false == x.1) = (if f = true then some (false, .int .u64 p.toNat) else none) ∧ l.find? (fun x => true == x.1) = (if t = true then some (true, .int .u64 q.toNat) else none)
theorem MB.start (p q : BitVec 64) : MB (.map #[] 0) p q false false := ⟨_, _, rfl, [], rfl, rfl, rfl⟩
end Tb
namespace Sx
section
variable {P : Program} {ds : List Deferred} {w0 w : World} {a : Act} {o : Oper} {n : Nat} {kv : List (Nat × Value)} {bs : List Bx} {rs : List Rx} {K : Nat → Option Obj}
theorem run_checkB {t : TypeId} {h b : Bool} (ht : P.underlying t = some .bool) : (Instr.checkKey b 10000 t (.bool h)).run P w = .ok () w := by
  unfold Instr.checkKey
  simp [run_underlying ht]
theorem run_findB {t : TypeId} {h : Bool} {es : List MapEntry} {l : List (Bool × Value)} (ht : P.underlying t = some .bool) (e : es.map (fun e => (e.key, e.val)) = l.map (fun q => (Value.bool q.1, q.2))) : (Instr.findKey t (.bool h) es).run P w = .ok (Tb.ixB h l 0) w := by
  unfold Instr.findKey
  simp [run_underlying ht, Tb.fnd_ixB h es l 0 e]
theorem upd2 (K : Nat → Option Obj) (r : Nat) (o o' : Obj) : Tb.upd (Tb.upd K r o) r o' = Tb.upd K r o' := by
  funext k; unfold Tb.upd; split <;> rfl
theorem d_insB {m x y : Operand} {t kt et : TypeId} {r : Nat} {ob : Obj} {h f g : Bool} {p q : BitVec 64} (hm : P.underlying t = some (.map kt et)) (ht : P.underlying kt = some .bool) (F : Fr n a kv ds) (H : Own w0 w bs rs (Tb.upd K r ob)) (ho : o.op = .insert t m x y)
    (hx : ev kv m = some (.map (some r))) (hy : ev kv x = some (.bool h)) (hv : ev kv y = some (.int .u64 (if h = true then q else p).toNat)) (hl : Tb.MB ob p q f g) (hn : (if h = true then g else f) = false) : Does P o a w (fun _ w' => ∃ ob', Tb.MB ob' p q (if h = true then f else true) (if h = true then true else g) ∧ Own w0 w' bs rs (Tb.upd K r ob')) := by
  obtain ⟨es, clock, rfl, l, hes, h1, h2⟩ := hl
  have hk : Tb.upd K r (.map es clock) r = some (.map es clock) := if_pos rfl
  have hh := (H.kp r _ hk).1
  have hf : l.find? (fun x => h == x.1) = none := by
    cases h
    · rw [h1]; rw [if_neg (by decide)] at hn; rw [hn]; rfl
    · rw [h2]; rw [if_pos rfl] at hn; rw [hn]; rfl
  have hr : (execOp a.eval o).run P w = .ok .skip (setBlock w r (.map (es.push { key := .bool h, val := .int .u64 (if h = true then q else p).toNat, born := clock }) (clock + 1))) := by
    unfold execOp; rw [ho]
    simp only [F.ev hx, F.ev hy, F.ev hv]
    unfold Instr.mapUpdate
    simp only [Sem.run_bind, run_underlying hm, Result.andThen_ok, MapKept.run_getObj_map hh, run_checkB ht, run_findB ht hes, Tb.ixB_none h l 0 hf, MapKept.run_setObj_map _ hh]
    rfl
  refine (does_skip hr).mono ?_
  rintro _ w' rfl
  have H2 := H.setKeep hk (w' := setBlock w r (.map (es.push { key := .bool h, val := .int .u64 (if h = true then q else p).toNat, born := clock }) (clock + 1))) ⟨rfl, rfl, rfl, by simp [setBlock], fun i _ hi => heap_setBlock_other hh _ (fun e => hi (by rw [e]))⟩ (heap_setBlock_same hh _)
  rw [upd2] at H2
  refine ⟨_, ⟨_, _, rfl, l ++ [(h, .int .u64 (if h = true then q else p).toNat)], by rw [Array.toList_push, List.map_append, hes, List.map_append]; rfl, ?_, ?_⟩, H2⟩
  · rw [List.find?_append, h1]
    cases h
    · rw [if_neg (by decide)] at hn; rw [hn]; rfl
    · cases f <;> rfl
  · rw [List.find?_append, h2]
    cases h
    · cases g <;> rfl
    · rw [if_pos rfl] at hn; rw [hn]; rfl
theorem d_lookB {m x : Operand} {t kt et : TypeId} {r : Nat} {ob : Obj} {h : Bool} {p q : BitVec 64} (hm : P.underlying t = some (.map kt et)) (ht : P.underlying kt = some .bool) (F : Fr n a kv ds) (H : Own w0 w bs rs (Tb.upd K r ob)) (ho : o.op = .lookup t m x false)
    (hx : ev kv m = some (.map (some r))) (hy : ev kv x = some (.bool h)) (hl : Tb.MB ob p q true true) : Does P o a w (fun y w' => y = .int .u64 (if h = true then q else p).toNat ∧ w' = w) := by
  obtain ⟨es, clock, rfl, l, hes, h1, h2⟩ := hl
  have hk : Tb.upd K r (.map es clock) r = some (.map es clock) := if_pos rfl
  have hh := (H.kp r _ hk).1
  have hf : l.find? (fun x => h == x.1) = some (h, .int .u64 (if h = true then q else p).toNat) := by
    cases h
    · exact h1
    · exact h2
  obtain ⟨k, hi⟩ := Tb.ixB_some h l 0 hf
  refine does_run ?_
  have hr : (Instr.lookup t (.map (some r)) (.bool h) false).run P w = .ok (.int .u64 (if h = true then q else p).toNat) w := by
    simp [Instr.lookup, run_underlying hm, MapKept.run_getObj_map hh, run_checkB ht, run_findB ht hes, hi]
  unfold execOp; rw [ho]; simp only [F.ev hx, F.ev hy, Sem.run_bind, hr]; rfl
end
end Sx
end
section
open Sx
variable {w0 w : World} {bs : List Sx.Bx} {rs : List Sx.Rx} {K : Nat → Option Obj} {g1 g2 g3 g4 g5 g6 g7 g8 g9 g10 g11 g12 g13 g14 g15 g16 g17 g18 g19 g20 g21 g22 g23 g24 c1 c2 c3 c4 c5 c6 c7 c8 c9 : Nat} {v1 v2 v3 v4 v5 v6 v7 v8 v9 : Value} {n b : BitVec 64} {at' : BitVec 128} {kd lf : BitVec 8}
namespace Hf
def blk (c : BitVec 128) : Blk := ⟨low (Wd.lo c), top (Wd.lo c), low (Wd.hi c), top (Wd.hi c)⟩
def out (s : St) : Blk := Ph.mix 10 (blk s.c) ⟨s.k0, s.k1⟩
def word (s : St) : BitVec 64 := if s.b then pair (out s).c (out s).d else pair (out s).a (out s).b
end Hf
theorem out_of {b0 b1 b2 b3 k0 k1 : BitVec 32} {u : Blk} (hO : Ph.mix 10 ⟨b0, b1, b2, b3⟩ ⟨k0, k1⟩ = u) (w : World) : Calls Tryz.prog 270 #[.agg #[.int .u32 b0.toNat, .int .u32 b1.toNat, .int .u32 b2.toNat, .int .u32 b3.toNat], .agg #[.int .u32 k0.toNat, .int .u32 k1.toNat]] w fun e w' => e = .returned (.agg #[.int .u32 u.a.toNat, .int .u32 u.b.toNat, .int .u32 u.c.toNat, .int .u32 u.d.toNat]) ∧ Below w.heap.size w w' := by rw [← hO]; exact out_c _ _ _ _ _ _ _
theorem cx901 {c : BitVec 128} {k0 : BitVec 32} {k1 : BitVec 32} {b : Bool} {u : Blk} (hO : Ph.mix 10 ⟨Hf.low (Wd.lo c), Hf.top (Wd.lo c), Hf.low (Wd.hi c), Hf.top (Wd.hi c)⟩ ⟨k0, k1⟩ = u) (H : Sx.Own w0 w bs rs K) : Cr 269 #[(L30 c k0 k1 b)] w0 w (uN (if b = true then (Hf.pair u.c u.d) else (Hf.pair u.a u.b))) bs rs K := by
 refine En Tryz.func269 Tryz.ntmps269 fun A F => ?_
 refine Sp fun _ kk => Zb F (d_box F H rfl rfl (L31 c k0 k1 b) rfl) fun g1 A w F H => ?_
 refine Av F fun A F => ?_
 refine Nl kk (Sx.seq fun K2 hK2 => ?_)
 have F := F.tq [(1, pT g1 0), (2, iU 0)] rfl
 refine Dn F [some (pT g1 0), some (.agg #[uH c, uL c]), some (.agg #[iW ((Hf.low (Wd.lo c)).toNat), iW ((Hf.top (Wd.lo c)).toNat), iW ((Hf.low (Wd.hi c)).toNat), iW ((Hf.top (Wd.hi c)).toNat)]), some (pT g1 2), some (.agg #[iW k0.toNat, iW k1.toNat]), some (.agg #[iW u.a.toNat, iW u.b.toNat, iW u.c.toNat, iW u.d.toNat]), none, none] (fun L A w => ∃ g2 : Nat, (L 6 = true → A.eval (.tmp 3) = pT g2 0) ∧ Sx.Own w0 w ((L 6, g2, (cond (L 7) [iW u.a.toNat, iW u.b.toNat, iW u.c.toNat, iW u.d.toNat] [iW 0, iW 0, iW 0, iW 0])) :: Bt g1 (L31 c k0 k1 b) :: bs) rs K) ⟨0, (fun h => by cases h), H.drew.padG [(false, 0, [iW 0, iW 0, iW 0, iW 0])] [] rfl rfl⟩ ?_ ?_
 ·refine ⟨?_, ?_, ?_, ?_, ?_, ?_, ?_, ?_, trivial⟩
  ·exact Sa (hS := (fun _ _ _ _ ⟨g2, p6, H⟩ => ⟨g2, Pk p6, H⟩))
  ·exact SV (fun _ _ _ F ⟨g2, p6, H⟩ => Lr 1 [uH c, uL c] rw_26 F H) (fun _ _ _ _ ⟨g2, p6, H⟩ => ⟨g2, Pk p6, H⟩)
  ·intro L A w up hun hd F ⟨g2, p6, H⟩
   have f7 : L 7 = false := up 7 2 rfl hun
   rw [f7] at H
   refine step_on rfl (Dc if_271 F H (hblock_c c _)) ?_
   rintro xv w' ⟨hx, H⟩
   exact ⟨Cs hx, ⟨g2, Pk p6, (by show Sx.Own _ _ _ _ _; rw [show Inv.add L 2 7 = false from f7]; exact H)⟩⟩
  ·exact Sa (hS := (fun _ _ _ _ ⟨g2, p6, H⟩ => ⟨g2, Pk p6, H⟩))
  ·exact SV (fun _ _ _ F ⟨g2, p6, H⟩ => Lr 1 [iW k0.toNat, iW k1.toNat] rw_31 F H) (fun _ _ _ _ ⟨g2, p6, H⟩ => ⟨g2, Pk p6, H⟩)
  ·intro L A w up hun hd F ⟨g2, p6, H⟩
   have f7 : L 7 = false := up 7 5 rfl hun
   rw [f7] at H
   refine step_on rfl (Dc if_270 F H (out_of hO _)) ?_
   rintro xv w' ⟨hx, H⟩
   exact ⟨Cs hx, ⟨g2, Pk p6, (by show Sx.Own _ _ _ _ _; rw [show Inv.add L 5 7 = false from f7]; exact H)⟩⟩
  ·intro L A w up hun hd F ⟨g2, p6, H⟩
   have f6 : L 6 = false := hun
   have f7 : L 7 = false := up 7 6 rfl hun
   rw [f6, f7] at H
   refine step_on rfl (d_alloc H rfl [iW 0, iW 0, iW 0, iW 0] zero_325) ?_
   rintro xv w' ⟨g3, hx, H⟩
   have H := H.pickN 3 0 [0, 2] []
   exact ⟨Cn, ⟨g3, (fun _ => (Sx.put_same F (by decide) _).trans hx), (by show Sx.Own _ _ _ _ _; rw [show Inv.add L 6 7 = false from f7]; exact H)⟩⟩
  ·intro L A w up hun hd F ⟨g2, p6, H⟩
   have t6 : L 6 = true := hd 6 rfl
   have f7 : L 7 = false := hun
   rw [t6, f7] at H
   have F := Fr.add F (p6 t6)
   refine step_on rfl (d_store (i := 0) (xs := [iW u.a.toNat, iW u.b.toNat, iW u.c.toNat, iW u.d.toNat]) (us := [iW u.a.toNat, iW u.b.toNat, iW u.c.toNat, iW u.d.toNat]) sz_325 F H rfl rfl rfl rfl rfl rfl rfl (Nat.le_of_ble_eq_true rfl) rfl) ?_
   intro xv w' H
   exact ⟨Cn, ⟨g2, p6, (by show Sx.Own _ _ _ _ _; rw [show Inv.add L 7 6 = true from t6]; exact H)⟩⟩
 ·intro L A w hL F ⟨g2, p6, H⟩
  have t6 : L 6 = true := hL 6 rfl
  have t7 : L 7 = true := hL 7 rfl
  rw [t6, t7] at H
  have F := Fr.add F (p6 t6)
  have H := H.pickN 2 0 [0, 1] []
  have F := F.tq [(1, pT g1 0), (2, iU 0), (3, pT g2 0)] rfl
  refine hK2 _ _ (Sx.seq fun K3 hK3 => ?_)
  have F := F.tq [(1, pT g1 0), (3, pT g2 0)] rfl
  refine Dn F [none, some (pT g2 0), some (iW u.a.toNat), some (pT g2 1), some (iW u.b.toNat), some (uN (Hf.pair u.a u.b)), none, some (pT g2 2), some (iW u.c.toNat), some (pT g2 3), some (iW u.d.toNat), some (uN (Hf.pair u.c u.d)), none, none, none] (fun L A w => ∃ (mr : Nat) (ob : Obj), (L 0 = true → A.eval (.tmp 11) = .map (some mr)) ∧ (L 0 = true → K mr = none) ∧ (L 13 = true → A.eval (.tmp 22) = .map (some mr)) ∧ (L 14 = true → A.eval (.tmp 4) = .map (some mr)) ∧ Tb.MB ob (Hf.pair u.a u.b) (Hf.pair u.c u.d) (L 6) (L 12) ∧ Sx.Own w0 w (Bt g2 [iW u.a.toNat, iW u.b.toNat, iW u.c.toNat, iW u.d.toNat] :: Bt g1 (L31 c k0 k1 b) :: bs) (rs) (cond (L 0) (Tb.upd K mr ob) K)) ⟨0, .map #[] 0, (fun h => by cases h), (fun h => by cases h), (fun h => by cases h), (fun h => by cases h), Tb.MB.start _ _, H.drew⟩ ?_ ?_
  ·refine ⟨?_, ?_, ?_, ?_, ?_, ?_, ?_, ?_, ?_, ?_, ?_, ?_, ?_, ?_, ?_, trivial⟩
   ·intro L A w up hun hd F ⟨mr, ob, m0, mk, m13, m14, hMB, H⟩
    have f6 : L 6 = false := up 6 0 rfl hun
    have f12 : L 12 = false := up 12 0 rfl hun
    have f13 : L 13 = false := up 13 0 rfl hun
    have f14 : L 14 = false := up 14 13 rfl f13
    rw [hun] at H
    refine step_on rfl (d_makeMap F (show Sx.Own w0 _ (Bt g2 [iW u.a.toNat, iW u.b.toNat, iW u.c.toNat, iW u.d.toNat] :: Bt g1 (L31 c k0 k1 b) :: bs) rs K from H) rfl) ?_
    rintro xv w' ⟨r, hx, hk, H⟩
    exact ⟨Cn, ⟨r, .map #[] 0, (fun _ => (Sx.put_same F (by decide) _).trans hx), (fun _ => hk), Nf f13, Nf f14, (by show Tb.MB _ _ _ (L 6) (L 12); rw [f6, f12]; exact Tb.MB.start _ _), H⟩⟩
   ·exact SV (fun _ _ _ F _ => d_iaddr (v := pT g2 0) F rfl rfl rfl (by kernel_rfl)) (fun _ _ _ _ ⟨mr, ob, m0, mk, m13, m14, hMB, H⟩ => ⟨mr, ob, Pk m0, mk, Pk m13, Pk m14, hMB, H⟩)
   ·exact SV (fun _ _ _ F ⟨mr, ob, m0, mk, m13, m14, hMB, H⟩ => Ld 0 one_29 F H) (fun _ _ _ _ ⟨mr, ob, m0, mk, m13, m14, hMB, H⟩ => ⟨mr, ob, Pk m0, mk, Pk m13, Pk m14, hMB, H⟩)
   ·exact SV (fun _ _ _ F _ => d_iaddr (v := pT g2 1) F rfl rfl rfl (by kernel_rfl)) (fun _ _ _ _ ⟨mr, ob, m0, mk, m13, m14, hMB, H⟩ => ⟨mr, ob, Pk m0, mk, Pk m13, Pk m14, hMB, H⟩)
   ·exact SV (fun _ _ _ F ⟨mr, ob, m0, mk, m13, m14, hMB, H⟩ => Ld 0 one_29 F H) (fun _ _ _ _ ⟨mr, ob, m0, mk, m13, m14, hMB, H⟩ => ⟨mr, ob, Pk m0, mk, Pk m13, Pk m14, hMB, H⟩)
   ·exact SV (fun _ _ _ F _ => d_callq (vs := [iW u.a.toNat, iW u.b.toNat]) (v := uN (Hf.pair u.a u.b)) if_272 F rfl rfl (hpair_c u.a u.b _)) (fun _ _ _ _ ⟨mr, ob, m0, mk, m13, m14, hMB, H⟩ => ⟨mr, ob, Pk m0, mk, Pk m13, Pk m14, hMB, H⟩)
   ·intro L A w up hun hd F ⟨mr, ob, m0, mk, m13, m14, hMB, H⟩
    have t0 : L 0 = true := hd 0 rfl
    have f13 : L 13 = false := up 13 6 rfl hun
    have f14 : L 14 = false := up 14 13 rfl f13
    rw [t0] at H
    rw [hun] at hMB
    have F := Fr.add F (m0 t0)
    refine step_on rfl (d_insB (h := false) (p := (Hf.pair u.a u.b)) (q := (Hf.pair u.c u.d)) (kt := 4) (et := 22) (by kernel_rfl) (by kernel_rfl) F (show Sx.Own w0 _ (Bt g2 [iW u.a.toNat, iW u.b.toNat, iW u.c.toNat, iW u.d.toNat] :: Bt g1 (L31 c k0 k1 b) :: bs) (rs) (Tb.upd K mr ob) from H) rfl rfl rfl rfl hMB rfl) ?_
    rintro _ w' ⟨ob', hMB, H⟩
    exact ⟨Cn, ⟨mr, ob', m0, mk, Nf f13, Nf f14, hMB, (by show Sx.Own w0 _ (Bt g2 [iW u.a.toNat, iW u.b.toNat, iW u.c.toNat, iW u.d.toNat] :: Bt g1 (L31 c k0 k1 b) :: bs) (rs) (cond (Inv.add L 6 0) _ _); rw [show Inv.add L 6 0 = true from t0]; exact H)⟩⟩
   ·exact SV (fun _ _ _ F _ => d_iaddr (v := pT g2 2) F rfl rfl rfl (by kernel_rfl)) (fun _ _ _ _ ⟨mr, ob, m0, mk, m13, m14, hMB, H⟩ => ⟨mr, ob, Pk m0, mk, Pk m13, Pk m14, hMB, H⟩)
   ·exact SV (fun _ _ _ F ⟨mr, ob, m0, mk, m13, m14, hMB, H⟩ => Ld 0 one_29 F H) (fun _ _ _ _ ⟨mr, ob, m0, mk, m13, m14, hMB, H⟩ => ⟨mr, ob, Pk m0, mk, Pk m13, Pk m14, hMB, H⟩)
   ·exact SV (fun _ _ _ F _ => d_iaddr (v := pT g2 3) F rfl rfl rfl (by kernel_rfl)) (fun _ _ _ _ ⟨mr, ob, m0, mk, m13, m14, hMB, H⟩ => ⟨mr, ob, Pk m0, mk, Pk m13, Pk m14, hMB, H⟩)
   ·exact SV (fun _ _ _ F ⟨mr, ob, m0, mk, m13, m14, hMB, H⟩ => Ld 0 one_29 F H) (fun _ _ _ _ ⟨mr, ob, m0, mk, m13, m14, hMB, H⟩ => ⟨mr, ob, Pk m0, mk, Pk m13, Pk m14, hMB, H⟩)
   ·exact SV (fun _ _ _ F _ => d_callq (vs := [iW u.c.toNat, iW u.d.toNat]) (v := uN (Hf.pair u.c u.d)) if_272 F rfl rfl (hpair_c u.c u.d _)) (fun _ _ _ _ ⟨mr, ob, m0, mk, m13, m14, hMB, H⟩ => ⟨mr, ob, Pk m0, mk, Pk m13, Pk m14, hMB, H⟩)
   ·intro L A w up hun hd F ⟨mr, ob, m0, mk, m13, m14, hMB, H⟩
    have t0 : L 0 = true := hd 0 rfl
    have f13 : L 13 = false := up 13 12 rfl hun
    have f14 : L 14 = false := up 14 13 rfl f13
    rw [t0] at H
    rw [hun] at hMB
    have F := Fr.add F (m0 t0)
    refine step_on rfl (d_insB (h := true) (p := (Hf.pair u.a u.b)) (q := (Hf.pair u.c u.d)) (kt := 4) (et := 22) (by kernel_rfl) (by kernel_rfl) F (show Sx.Own w0 _ (Bt g2 [iW u.a.toNat, iW u.b.toNat, iW u.c.toNat, iW u.d.toNat] :: Bt g1 (L31 c k0 k1 b) :: bs) (rs) (Tb.upd K mr ob) from H) rfl rfl rfl rfl hMB rfl) ?_
    rintro _ w' ⟨ob', hMB, H⟩
    exact ⟨Cn, ⟨mr, ob', m0, mk, Nf f13, Nf f14, hMB, (by show Sx.Own w0 _ (Bt g2 [iW u.a.toNat, iW u.b.toNat, iW u.c.toNat, iW u.d.toNat] :: Bt g1 (L31 c k0 k1 b) :: bs) (rs) (cond (Inv.add L 12 0) _ _); rw [show Inv.add L 12 0 = true from t0]; exact H)⟩⟩
   ·intro L A w up hun hd F ⟨mr, ob, m0, mk, m13, m14, hMB, H⟩
    have t0 : L 0 = true := hd 0 rfl
    have f14 : L 14 = false := up 14 13 rfl hun
    have F := Fr.add F (m0 t0)
    refine step_on rfl (d_move F (Or.inl rfl) rfl) ?_
    rintro xv w' ⟨hx, rfl⟩
    exact ⟨Cn, ⟨mr, ob, Pk m0, mk, (fun _ => (Sx.put_same F (by decide) _).trans hx), Nf f14, hMB, H⟩⟩
   ·intro L A w up hun hd F ⟨mr, ob, m0, mk, m13, m14, hMB, H⟩
    have t13 : L 13 = true := hd 13 rfl
    have F := Fr.add F (m13 t13)
    refine step_on rfl (d_move F (Or.inr rfl) rfl) ?_
    rintro xv w' ⟨hx, rfl⟩
    exact ⟨Cn, ⟨mr, ob, Pk m0, mk, Pk m13, (fun _ => (Sx.put_same F (by decide) _).trans hx), hMB, H⟩⟩
  ·intro L A w hL F ⟨mr, ob, m0, mk, m13, m14, hMB, H⟩
   have t0 : L 0 = true := hL 0 rfl
   have t6 : L 6 = true := hL 6 rfl
   have t12 : L 12 = true := hL 12 rfl
   have t14 : L 14 = true := hL 14 rfl
   rw [t6, t12] at hMB
   rw [t0] at H
   have F := Fr.add F (m14 t14)
   have F := F.tq [(1, pT g1 0), (4, .map (some mr))] rfl
   have H : Sx.Own w0 _ (Bt g2 [iW u.a.toNat, iW u.b.toNat, iW u.c.toNat, iW u.d.toNat] :: Bt g1 (L31 c k0 k1 b) :: bs) (rs) (Tb.upd K mr ob) := H
   refine hK3 _ _ (Sp fun _ kk => ?_)
   iterate 3 (refine Av F ?_; intro A F)
   have hMB2 := hMB
   refine Zv F (d_lookB (h := b) (p := (Hf.pair u.a u.b)) (q := (Hf.pair u.c u.d)) (kt := 4) (et := 22) (by kernel_rfl) (by kernel_rfl) F H rfl rfl rfl hMB) fun A F => ?_
   refine Av F fun A F => ?_
   refine Nl kk (Wr (ret1 F Tryz.results269 (res_tmp F rfl) ?_))
   have H := H.pickN 2 0 [] []
   have H := H.unkeep1 (mk t0)
   exact ⟨_, rfl, rfl, H⟩
theorem hword_c (c : BitVec 128) (k0 k1 : BitVec 32) (b : Bool) (w : World) :
    Calls Tryz.prog 269 #[.agg #[.int .u64 ((Wd.hi c).toNat), .int .u64 ((Wd.lo c).toNat), .int .u32 k0.toNat, .int .u32 k1.toNat, .bool b]] w fun e w' => e = .returned (.int .u64 (Hf.word ⟨c, k0, k1, b⟩).toNat) ∧ Below w.heap.size w w' := by
  obtain ⟨u, hO⟩ : ∃ u, Hf.out ⟨c, k0, k1, b⟩ = u := ⟨_, rfl⟩
  have hw : Hf.word ⟨c, k0, k1, b⟩ = if b = true then (Hf.pair u.c u.d) else (Hf.pair u.a u.b) := by unfold Hf.word; rw [hO]
  rw [hw]
  exact (cx901 (K := fun _ => none) hO (Sx.Own.start w)).mono fun e w' ⟨x, he, hx, H⟩ => ⟨by rw [he, hx], H.below⟩
end
namespace Hf
def it : Nat → St → St
  | 0, s => s
  | n + 1, s => step (it n s)
end Hf
@[go_sem] theorem Tryz.eq_key9 (w : World) (a0 a1 b0 b1 : Int) : (Op.equalIn 9999 31 (.agg #[.int .u32 a0, .int .u32 a1]) (.agg #[.int .u32 b0, .int .u32 b1])).run Tryz.prog w = .ok (eq2 a0 a1 b0 b1) w := run_eq_arr2 w 9997 _ 29 .u32 _ _ _ _ Tryz.underlying31 Tryz.underlying29 Tryz.size_u32 Tryz.agg_u32
theorem a1 {x y : Value} (h : x = y) : #[x] = #[y] := by rw [h]
theorem a2 {x y u v : Value} (h : x = y) (k : u = v) : #[x, u] = #[y, v] := by rw [h, k]


end Go.Proofs.YteecadoakmdibaaGreat
