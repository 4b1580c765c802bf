/- What the proof of TopBounded leans on: part 7. -/
import Derived.Test.YteecadoakmdibaaGreatQ2
import Derived.Test.YteecadoakmdibaaGreatQ3
import Derived.Test.YteecadoakmdibaaGreatQ4
import Derived.Test.YteecadoakmdibaaGreatQ5
import Derived.Test.YteecadoakmdibaaGreatQ6
import GoSem.Op.String
import Derived.Laws.IdiomCopy
import Derived.Defers
set_option maxRecDepth 100000
set_option maxHeartbeats 4000000
namespace Go.Proofs.YteecadoakmdibaaGreat
open Go Go.RowKit
theorem im_181 : Sx.isM Tryz.prog 131 "knucklebone/gen.alone" 181 := fun _ _ => by kernel_rfl
theorem im_185 : Sx.isM Tryz.prog 131 "knucklebone/gen.right" 185 := fun _ _ => by kernel_rfl
theorem im_183 : Sx.isM Tryz.prog 131 "knucklebone/gen.jump" 183 := fun _ _ => by kernel_rfl
theorem im_182 : Sx.isM Tryz.prog 131 "knucklebone/gen.bits" 182 := fun _ _ => by kernel_rfl
theorem im_189 : Sx.isM Tryz.prog 131 "knucklebone/gen.word" 189 := fun _ _ => by kernel_rfl
theorem im_187 : Sx.isM Tryz.prog 131 "knucklebone/gen.step" 187 := fun _ _ => by kernel_rfl
theorem im_193 : Sx.isM Tryz.prog 132 "knucklebone/gen.alone" 193 := fun _ _ => by kernel_rfl
theorem im_197 : Sx.isM Tryz.prog 132 "knucklebone/gen.right" 197 := fun _ _ => by kernel_rfl
theorem im_195 : Sx.isM Tryz.prog 132 "knucklebone/gen.jump" 195 := fun _ _ => by kernel_rfl
theorem im_194 : Sx.isM Tryz.prog 132 "knucklebone/gen.bits" 194 := fun _ _ => by kernel_rfl
theorem im_201 : Sx.isM Tryz.prog 132 "knucklebone/gen.word" 201 := fun _ _ => by kernel_rfl
theorem im_199 : Sx.isM Tryz.prog 132 "knucklebone/gen.step" 199 := fun _ _ => by kernel_rfl
theorem im_240 : Sx.isM Tryz.prog 133 "knucklebone/gen.alone" 240 := fun _ _ => by kernel_rfl
theorem im_244 : Sx.isM Tryz.prog 133 "knucklebone/gen.right" 244 := fun _ _ => by kernel_rfl
theorem im_242 : Sx.isM Tryz.prog 133 "knucklebone/gen.jump" 242 := fun _ _ => by kernel_rfl
theorem im_241 : Sx.isM Tryz.prog 133 "knucklebone/gen.bits" 241 := fun _ _ => by kernel_rfl
theorem im_248 : Sx.isM Tryz.prog 133 "knucklebone/gen.word" 248 := fun _ _ => by kernel_rfl
theorem im_246 : Sx.isM Tryz.prog 133 "knucklebone/gen.step" 246 := fun _ _ => by kernel_rfl
theorem im_258 : Sx.isM Tryz.prog 134 "knucklebone/gen.alone" 258 := fun _ _ => by kernel_rfl
theorem im_262 : Sx.isM Tryz.prog 134 "knucklebone/gen.right" 262 := fun _ _ => by kernel_rfl
theorem im_260 : Sx.isM Tryz.prog 134 "knucklebone/gen.jump" 260 := fun _ _ => by kernel_rfl
theorem im_259 : Sx.isM Tryz.prog 134 "knucklebone/gen.bits" 259 := fun _ _ => by kernel_rfl
theorem im_266 : Sx.isM Tryz.prog 134 "knucklebone/gen.word" 266 := fun _ _ => by kernel_rfl
theorem im_264 : Sx.isM Tryz.prog 134 "knucklebone/gen.step" 264 := fun _ _ => by kernel_rfl
open Sx in
theorem gof1_c  (w0 : World) : Calls Tryz.prog 26 #[iI 1] w0 fun e w' => e = .returned (.iface 131 (.agg #[])) ∧ Below w0.heap.size w0 w' := by
 refine En Tryz.func26 Tryz.ntmps26 fun A F => ?_
 have H := Sx.Own.start w0
 refine Sp fun _ kk => Av F fun A F => ?_
 refine Nl kk (Sx.seq fun K2 hK2 => Sp fun _ kk => Av F fun A F => ?_)
 refine Nl kk (wp_block (Sp fun _ kk => ?_))
 iterate 2 (refine Av F ?_; intro A F)
 refine Nl kk (condT F rfl (Sp fun _ kk => Zv F (d_build (qs := #[]) (v := .agg #[]) F rfl rfl (by kernel_rfl)) fun A F => ?_))
 refine Zv F (d_mkI (v := .iface 131 (.agg #[])) F rfl rfl (by kernel_rfl)) fun A F => ?_
 refine Av F fun A F => ?_
 refine Nl kk ?_
 refine Wr (ret1 F Tryz.results26 (res_tmp F rfl) (An ?_ H.below))
 rfl
open Sx in
theorem gof2_c  (w0 : World) : Calls Tryz.prog 26 #[iI 2] w0 fun e w' => e = .returned (.iface 132 (.agg #[])) ∧ Below w0.heap.size w0 w' := by
 refine En Tryz.func26 Tryz.ntmps26 fun A F => ?_
 have H := Sx.Own.start w0
 refine Sp fun _ kk => Av F fun A F => ?_
 refine Nl kk (Sx.seq fun K2 hK2 => Sp fun _ kk => Av F fun A F => ?_)
 refine Nl kk (wp_block (Sp fun _ kk => ?_))
 iterate 2 (refine Av F ?_; intro A F)
 refine Nl kk (condF F rfl (Sp fun _ kk => ?_))
 iterate 2 (refine Av F ?_; intro A F)
 refine Nl kk (condT F rfl (Sp fun _ kk => Zv F (d_build (qs := #[]) (v := .agg #[]) F rfl rfl (by kernel_rfl)) fun A F => ?_))
 refine Zv F (d_mkI (v := .iface 132 (.agg #[])) F rfl rfl (by kernel_rfl)) fun A F => ?_
 refine Av F fun A F => ?_
 refine Nl kk ?_
 refine Wr (ret1 F Tryz.results26 (res_tmp F rfl) (An ?_ H.below))
 rfl
open Sx in
theorem gof3_c  (w0 : World) : Calls Tryz.prog 26 #[iI 3] w0 fun e w' => e = .returned (.iface 133 (.agg #[])) ∧ Below w0.heap.size w0 w' := by
 refine En Tryz.func26 Tryz.ntmps26 fun A F => ?_
 have H := Sx.Own.start w0
 refine Sp fun _ kk => Av F fun A F => ?_
 refine Nl kk (Sx.seq fun K2 hK2 => Sp fun _ kk => Av F fun A F => ?_)
 refine Nl kk (wp_block (Sp fun _ kk => ?_))
 iterate 2 (refine Av F ?_; intro A F)
 refine Nl kk (condF F rfl (Sp fun _ kk => ?_))
 iterate 2 (refine Av F ?_; intro A F)
 refine Nl kk (condF F rfl (Sp fun _ kk => ?_))
 iterate 2 (refine Av F ?_; intro A F)
 refine Nl kk (condT F rfl (Sp fun _ kk => Zv F (d_build (qs := #[]) (v := .agg #[]) F rfl rfl (by kernel_rfl)) fun A F => ?_))
 refine Zv F (d_mkI (v := .iface 133 (.agg #[])) F rfl rfl (by kernel_rfl)) fun A F => ?_
 refine Av F fun A F => ?_
 refine Nl kk ?_
 refine Wr (ret1 F Tryz.results26 (res_tmp F rfl) (An ?_ H.below))
 rfl
open Sx in
theorem gof4_c  (w0 : World) : Calls Tryz.prog 26 #[iI 4] w0 fun e w' => e = .returned (.iface 134 (.agg #[])) ∧ Below w0.heap.size w0 w' := by
 refine En Tryz.func26 Tryz.ntmps26 fun A F => ?_
 have H := Sx.Own.start w0
 refine Sp fun _ kk => Av F fun A F => ?_
 refine Nl kk (Sx.seq fun K2 hK2 => Sp fun _ kk => Av F fun A F => ?_)
 refine Nl kk (wp_block (Sp fun _ kk => ?_))
 iterate 2 (refine Av F ?_; intro A F)
 refine Nl kk (condF F rfl (Sp fun _ kk => ?_))
 iterate 2 (refine Av F ?_; intro A F)
 refine Nl kk (condF F rfl (Sp fun _ kk => ?_))
 iterate 2 (refine Av F ?_; intro A F)
 refine Nl kk (condF F rfl (Sp fun _ kk => ?_))
 iterate 2 (refine Av F ?_; intro A F)
 refine Nl kk (condT F rfl (Sp fun _ kk => Zv F (d_build (qs := #[]) (v := .agg #[]) F rfl rfl (by kernel_rfl)) fun A F => ?_))
 refine Zv F (d_mkI (v := .iface 134 (.agg #[])) F rfl rfl (by kernel_rfl)) fun A F => ?_
 refine Av F fun A F => ?_
 refine Nl kk ?_
 refine Wr (ret1 F Tryz.results26 (res_tmp F rfl) (An ?_ H.below))
 rfl
abbrev L37 (x0 : Int) (x1 : BitVec 64) (x2 : St) (x3 x4 x5 : BitVec 128) (x6 x7 : BitVec 32) (x8 : Bool) : Value := .agg #[iI x0, uN x1, uN x2.a, uN x2.b, uN x2.c, uN x2.d, uH x3, uL x3, uH x4, uL x4, uH x5, uL x5, iW x6.toNat, iW x7.toNat, .bool x8]
abbrev L38 (x0 : BitVec 64) : Value := .agg #[iI 1, uN x0, iU 0, iU 0, iU 0, iU 0, uN (Wd.hi 0#128), uN (Wd.lo 0#128), uN (Wd.hi 0#128), uN (Wd.lo 0#128), uN (Wd.hi 0#128), uN (Wd.lo 0#128), iW 0, iW 0, bF]
abbrev L39 (x0 : Int) (x1 : BitVec 64) (x2 : St) (x3 x4 x5 : BitVec 128) (x6 x7 : BitVec 32) (x8 : Bool) : List Value := [iI x0, uN x1, uN x2.a, uN x2.b, uN x2.c, uN x2.d, uH x3, uL x3, uH x4, uL x4, uH x5, uL x5, iW x6.toNat, iW x7.toNat, .bool x8]
abbrev L40 (x0 : BitVec 64) : List Value := [iI 1, uN x0, iU 0, iU 0, iU 0, iU 0, uN (Wd.hi 0#128), uN (Wd.lo 0#128), uN (Wd.hi 0#128), uN (Wd.lo 0#128), uN (Wd.hi 0#128), uN (Wd.lo 0#128), iW 0, iW 0, bF]
open Sx in
theorem galone1_c (gk : Int) (gm : BitVec 64) (gx : St) (ps pi hc : BitVec 128) (k0 k1 : BitVec 32) (hb : Bool) (w0 : World) : Calls Tryz.prog 181 #[.agg #[], (L37 gk gm gx ps pi hc k0 k1 hb)] w0 fun e w' => e = .returned (L38 gm) ∧ Below w0.heap.size w0 w' := by
 refine En Tryz.func181 Tryz.ntmps181 fun A F => ?_
 have H := Sx.Own.start w0
 refine Sp fun _ kk => Zb F (d_box F H rfl rfl [] rfl) fun g1 A w F H => ?_
 refine Zb F (d_box F H rfl rfl (L39 gk gm gx ps pi hc k0 k1 hb) rfl) fun g2 A w F H => ?_
 refine Zb F (d_alloc H rfl L6 zero_35) fun g3 A w F H => ?_
 refine Nl kk (Sp fun _ kk => ?_)
 iterate 2 (refine Av F ?_; intro A F)
 refine Zv F (d_build (qs := #[(0, iI 1), (1, uN gm)]) (v := (L38 gm)) F rfl rfl (by kernel_rfl)) fun A F => ?_
 refine Zs 0 (L40 gm) sz_35 F H fun A w F H => ?_
 refine Nl kk ?_
 refine Wr (ret1 F Tryz.results181 (res_row (i := 0) (xs := [iI 1, uN gm, iU 0, iU 0, iU 0, iU 0, uN (Wd.hi 0#128), uN (Wd.lo 0#128), uN (Wd.hi 0#128), uN (Wd.lo 0#128), uN (Wd.hi 0#128), uN (Wd.lo 0#128), iW 0, iW 0, bF]) rw_35 F H rfl rfl rfl rfl) (An ?_ H.below))
 rfl
open Sx in
theorem gright1_c (gk : Int) (gm : BitVec 64) (gx : St) (ps pi hc : BitVec 128) (k0 k1 : BitVec 32) (hb : Bool) (w0 : World) : Calls Tryz.prog 185 #[.agg #[], (L37 gk gm gx ps pi hc k0 k1 hb)] w0 fun e w' => e = .returned (bT) ∧ Below w0.heap.size w0 w' := by
 refine En Tryz.func185 Tryz.ntmps185 fun A F => ?_
 have H := Sx.Own.start w0
 refine Sp fun _ kk => Zb F (d_box F H rfl rfl [] rfl) fun g1 A w F H => ?_
 refine Zb F (d_box F H rfl rfl (L39 gk gm gx ps pi hc k0 k1 hb) rfl) fun g2 A w F H => ?_
 refine Av F fun A F => ?_
 refine Nl kk (Sp fun _ kk => Av F fun A F => ?_)
 refine Nl kk ?_
 refine Wr (ret1 F Tryz.results185 (res_tmp F rfl) (An ?_ H.below))
 rfl
open Sx in
theorem gbits1_c  (w0 : World) : Calls Tryz.prog 182 #[.agg #[]] w0 fun e w' => e = .returned (iI 63) ∧ Below w0.heap.size w0 w' := by
 refine En Tryz.func182 Tryz.ntmps182 fun A F => ?_
 have H := Sx.Own.start w0
 refine Sp fun _ kk => Zb F (d_box F H rfl rfl [] rfl) fun g1 A w F H => ?_
 refine Av F fun A F => ?_
 refine Nl kk (Sp fun _ kk => Av F fun A F => ?_)
 refine Nl kk ?_
 refine Wr (ret1 F Tryz.results182 (res_tmp F rfl) (An ?_ H.below))
 rfl
abbrev L41 (x0 : St) : Value := .agg #[iI 2, iU 0, uN x0.a, uN x0.b, uN x0.c, uN x0.d, uN (Wd.hi 0#128), uN (Wd.lo 0#128), uN (Wd.hi 0#128), uN (Wd.lo 0#128), uN (Wd.hi 0#128), uN (Wd.lo 0#128), iW 0, iW 0, bF]
abbrev L42 (x0 : St) : List Value := [iI 2, iU 0, uN x0.a, uN x0.b, uN x0.c, uN x0.d, uN (Wd.hi 0#128), uN (Wd.lo 0#128), uN (Wd.hi 0#128), uN (Wd.lo 0#128), uN (Wd.hi 0#128), uN (Wd.lo 0#128), iW 0, iW 0, bF]
open Sx in
theorem galone2_c (gk : Int) (gm : BitVec 64) (gx : St) (ps pi hc : BitVec 128) (k0 k1 : BitVec 32) (hb : Bool) (w0 : World) : Calls Tryz.prog 193 #[.agg #[], (L37 gk gm gx ps pi hc k0 k1 hb)] w0 fun e w' => e = .returned (L41 gx) ∧ Below w0.heap.size w0 w' := by
 refine En Tryz.func193 Tryz.ntmps193 fun A F => ?_
 have H := Sx.Own.start w0
 refine Sp fun _ kk => Zb F (d_box F H rfl rfl [] rfl) fun g1 A w F H => ?_
 refine Zb F (d_box F H rfl rfl (L39 gk gm gx ps pi hc k0 k1 hb) rfl) fun g2 A w F H => ?_
 refine Zb F (d_alloc H rfl L6 zero_35) fun g3 A w F H => ?_
 refine Nl kk (Sp fun _ kk => ?_)
 iterate 2 (refine Av F ?_; intro A F)
 refine Zv F (d_build (qs := #[(0, iI 2), (2, (L8 gx))]) (v := (L41 gx)) F rfl rfl (by kernel_rfl)) fun A F => ?_
 refine Zs 0 (L42 gx) sz_35 F H fun A w F H => ?_
 refine Nl kk ?_
 refine Wr (ret1 F Tryz.results193 (res_row (i := 0) (xs := [iI 2, iU 0, uN gx.a, uN gx.b, uN gx.c, uN gx.d, uN (Wd.hi 0#128), uN (Wd.lo 0#128), uN (Wd.hi 0#128), uN (Wd.lo 0#128), uN (Wd.hi 0#128), uN (Wd.lo 0#128), iW 0, iW 0, bF]) rw_35 F H rfl rfl rfl rfl) (An ?_ H.below))
 rfl
open Sx in
theorem gright2_c (gk : Int) (gm : BitVec 64) (gx : St) (ps pi hc : BitVec 128) (k0 k1 : BitVec 32) (hb : Bool) (w0 : World) : Calls Tryz.prog 197 #[.agg #[], (L37 gk gm gx ps pi hc k0 k1 hb)] w0 fun e w' => e = .returned (.bool (Xj.right gx)) ∧ Below w0.heap.size w0 w' := by
 refine En Tryz.func197 Tryz.ntmps197 fun A F => ?_
 have H := Sx.Own.start w0
 refine Sp fun _ kk => Zb F (d_box F H rfl rfl [] rfl) fun g1 A w F H => ?_
 refine Zb F (d_box F H rfl rfl (L39 gk gm gx ps pi hc k0 k1 hb) rfl) fun g2 A w F H => ?_
 refine Av F fun A F => ?_
 refine Nl kk (Sp fun _ kk => ?_)
 iterate 2 (refine Av F ?_; intro A F)
 refine Zw F (Dc if_203 F H (xright_c gx _)) fun A w F H => ?_
 refine Av F fun A F => ?_
 refine Nl kk ?_
 refine Wr (ret1 F Tryz.results197 (res_tmp F rfl) (An ?_ H.below))
 rfl
open Sx in
theorem gbits2_c  (w0 : World) : Calls Tryz.prog 194 #[.agg #[]] w0 fun e w' => e = .returned (iI 127) ∧ Below w0.heap.size w0 w' := by
 refine En Tryz.func194 Tryz.ntmps194 fun A F => ?_
 have H := Sx.Own.start w0
 refine Sp fun _ kk => Zb F (d_box F H rfl rfl [] rfl) fun g1 A w F H => ?_
 refine Av F fun A F => ?_
 refine Nl kk (Sp fun _ kk => Av F fun A F => ?_)
 refine Nl kk ?_
 refine Wr (ret1 F Tryz.results194 (res_tmp F rfl) (An ?_ H.below))
 rfl
abbrev L43 (x0 x1 : BitVec 128) : Value := .agg #[iI 3, iU 0, iU 0, iU 0, iU 0, iU 0, uH x0, uL x0, uH x1, uL x1, uN (Wd.hi 0#128), uN (Wd.lo 0#128), iW 0, iW 0, bF]
abbrev L44 (x0 x1 : BitVec 128) : List Value := [iI 3, iU 0, iU 0, iU 0, iU 0, iU 0, uH x0, uL x0, uH x1, uL x1, uN (Wd.hi 0#128), uN (Wd.lo 0#128), iW 0, iW 0, bF]
open Sx in
theorem galone3_c (gk : Int) (gm : BitVec 64) (gx : St) (ps pi hc : BitVec 128) (k0 k1 : BitVec 32) (hb : Bool) (w0 : World) : Calls Tryz.prog 240 #[.agg #[], (L37 gk gm gx ps pi hc k0 k1 hb)] w0 fun e w' => e = .returned (L43 ps pi) ∧ Below w0.heap.size w0 w' := by
 refine En Tryz.func240 Tryz.ntmps240 fun A F => ?_
 have H := Sx.Own.start w0
 refine Sp fun _ kk => Zb F (d_box F H rfl rfl [] rfl) fun g1 A w F H => ?_
 refine Zb F (d_box F H rfl rfl (L39 gk gm gx ps pi hc k0 k1 hb) rfl) fun g2 A w F H => ?_
 refine Zb F (d_alloc H rfl L6 zero_35) fun g3 A w F H => ?_
 refine Nl kk (Sp fun _ kk => ?_)
 iterate 2 (refine Av F ?_; intro A F)
 refine Zv F (d_build (qs := #[(0, iI 3), (3, (L18 ps pi))]) (v := (L43 ps pi)) F rfl rfl (by kernel_rfl)) fun A F => ?_
 refine Zs 0 (L44 ps pi) sz_35 F H fun A w F H => ?_
 refine Nl kk ?_
 refine Wr (ret1 F Tryz.results240 (res_row (i := 0) (xs := [iI 3, iU 0, iU 0, iU 0, iU 0, iU 0, uH ps, uL ps, uH pi, uL pi, uN (Wd.hi 0#128), uN (Wd.lo 0#128), iW 0, iW 0, bF]) rw_35 F H rfl rfl rfl rfl) (An ?_ H.below))
 rfl
open Sx in
theorem gright3_c (gk : Int) (gm : BitVec 64) (gx : St) (ps pi hc : BitVec 128) (k0 k1 : BitVec 32) (hb : Bool) (w0 : World) : Calls Tryz.prog 244 #[.agg #[], (L37 gk gm gx ps pi hc k0 k1 hb)] w0 fun e w' => e = .returned (.bool (Af.odd pi)) ∧ Below w0.heap.size w0 w' := by
 refine En Tryz.func244 Tryz.ntmps244 fun A F => ?_
 have H := Sx.Own.start w0
 refine Sp fun _ kk => Zb F (d_box F H rfl rfl [] rfl) fun g1 A w F H => ?_
 refine Zb F (d_box F H rfl rfl (L39 gk gm gx ps pi hc k0 k1 hb) rfl) fun g2 A w F H => ?_
 refine Av F fun A F => ?_
 refine Nl kk (Sp fun _ kk => ?_)
 iterate 2 (refine Av F ?_; intro A F)
 refine Zw F (Dc if_250 F H (pright_c ps pi _)) fun A w F H => ?_
 refine Av F fun A F => ?_
 refine Nl kk ?_
 refine Wr (ret1 F Tryz.results244 (res_tmp F rfl) (An ?_ H.below))
 rfl
open Sx in
theorem gbits3_c  (w0 : World) : Calls Tryz.prog 241 #[.agg #[]] w0 fun e w' => e = .returned (iI 127) ∧ Below w0.heap.size w0 w' := by
 refine En Tryz.func241 Tryz.ntmps241 fun A F => ?_
 have H := Sx.Own.start w0
 refine Sp fun _ kk => Zb F (d_box F H rfl rfl [] rfl) fun g1 A w F H => ?_
 refine Av F fun A F => ?_
 refine Nl kk (Sp fun _ kk => Av F fun A F => ?_)
 refine Nl kk ?_
 refine Wr (ret1 F Tryz.results241 (res_tmp F rfl) (An ?_ H.below))
 rfl
abbrev L45 (x0 : BitVec 128) (x1 x2 : BitVec 32) (x3 : Bool) : Value := .agg #[iI 4, iU 0, iU 0, iU 0, iU 0, iU 0, uN (Wd.hi 0#128), uN (Wd.lo 0#128), uN (Wd.hi 0#128), uN (Wd.lo 0#128), uH x0, uL x0, iW x1.toNat, iW x2.toNat, .bool x3]
abbrev L46 (x0 : BitVec 128) (x1 x2 : BitVec 32) (x3 : Bool) : List Value := [iI 4, iU 0, iU 0, iU 0, iU 0, iU 0, uN (Wd.hi 0#128), uN (Wd.lo 0#128), uN (Wd.hi 0#128), uN (Wd.lo 0#128), uH x0, uL x0, iW x1.toNat, iW x2.toNat, .bool x3]
open Sx in
theorem galone4_c (gk : Int) (gm : BitVec 64) (gx : St) (ps pi hc : BitVec 128) (k0 k1 : BitVec 32) (hb : Bool) (w0 : World) : Calls Tryz.prog 258 #[.agg #[], (L37 gk gm gx ps pi hc k0 k1 hb)] w0 fun e w' => e = .returned (L45 hc k0 k1 hb) ∧ Below w0.heap.size w0 w' := by
 refine En Tryz.func258 Tryz.ntmps258 fun A F => ?_
 have H := Sx.Own.start w0
 refine Sp fun _ kk => Zb F (d_box F H rfl rfl [] rfl) fun g1 A w F H => ?_
 refine Zb F (d_box F H rfl rfl (L39 gk gm gx ps pi hc k0 k1 hb) rfl) fun g2 A w F H => ?_
 refine Zb F (d_alloc H rfl L6 zero_35) fun g3 A w F H => ?_
 refine Nl kk (Sp fun _ kk => ?_)
 iterate 2 (refine Av F ?_; intro A F)
 refine Zv F (d_build (qs := #[(0, iI 4), (4, (L30 hc k0 k1 hb))]) (v := (L45 hc k0 k1 hb)) F rfl rfl (by kernel_rfl)) fun A F => ?_
 refine Zs 0 (L46 hc k0 k1 hb) sz_35 F H fun A w F H => ?_
 refine Nl kk ?_
 refine Wr (ret1 F Tryz.results258 (res_row (i := 0) (xs := [iI 4, iU 0, iU 0, iU 0, iU 0, iU 0, uN (Wd.hi 0#128), uN (Wd.lo 0#128), uN (Wd.hi 0#128), uN (Wd.lo 0#128), uH hc, uL hc, iW k0.toNat, iW k1.toNat, .bool hb]) rw_35 F H rfl rfl rfl rfl) (An ?_ H.below))
 rfl
open Sx in
theorem gright4_c (gk : Int) (gm : BitVec 64) (gx : St) (ps pi hc : BitVec 128) (k0 k1 : BitVec 32) (hb : Bool) (w0 : World) : Calls Tryz.prog 262 #[.agg #[], (L37 gk gm gx ps pi hc k0 k1 hb)] w0 fun e w' => e = .returned (bT) ∧ Below w0.heap.size w0 w' := by
 refine En Tryz.func262 Tryz.ntmps262 fun A F => ?_
 have H := Sx.Own.start w0
 refine Sp fun _ kk => Zb F (d_box F H rfl rfl [] rfl) fun g1 A w F H => ?_
 refine Zb F (d_box F H rfl rfl (L39 gk gm gx ps pi hc k0 k1 hb) rfl) fun g2 A w F H => ?_
 refine Av F fun A F => ?_
 refine Nl kk (Sp fun _ kk => Av F fun A F => ?_)
 refine Nl kk ?_
 refine Wr (ret1 F Tryz.results262 (res_tmp F rfl) (An ?_ H.below))
 rfl
open Sx in
theorem gbits4_c  (w0 : World) : Calls Tryz.prog 259 #[.agg #[]] w0 fun e w' => e = .returned (iI 127) ∧ Below w0.heap.size w0 w' := by
 refine En Tryz.func259 Tryz.ntmps259 fun A F => ?_
 have H := Sx.Own.start w0
 refine Sp fun _ kk => Zb F (d_box F H rfl rfl [] rfl) fun g1 A w F H => ?_
 refine Av F fun A F => ?_
 refine Nl kk (Sp fun _ kk => Av F fun A F => ?_)
 refine Nl kk ?_
 refine Wr (ret1 F Tryz.results259 (res_tmp F rfl) (An ?_ H.below))
 rfl
open Sx in
theorem brot7_c (x : BitVec 64) (w0 : World) : Calls Tryz.prog 208 #[uN x, iI 7] w0 fun e w' => e = .returned (uN (Xo.rotl x 7)) ∧ Below w0.heap.size w0 w' := by
 refine En Tryz.func208 Tryz.ntmps208 fun A F => ?_
 have H := Sx.Own.start w0
 refine Sp fun _ kk => Av F fun A F => ?_
 refine Nl kk (Sp fun _ kk => Av F fun A F => ?_)
 refine Zv F (d_conv (v := iU 7) F rfl rfl (by kernel_rfl)) fun A F => ?_
 refine Zn (iU 7) F fun A F => ?_
 refine Av F fun A F => ?_
 refine Nl kk (Sp fun _ kk => ?_)
 iterate 2 (refine Av F ?_; intro A F)
 refine Zv F (Bn (uN (x <<< 7)) F rfl rfl rfl (i_shl64 x 7 (by decide) _)) fun A F => ?_
 iterate 2 (refine Av F ?_; intro A F)
 refine Zn (iU 57) F fun A F => ?_
 refine Zv F (Bn (uN (x >>> 57)) F rfl rfl rfl (i_shr64 x 57 (by decide) _)) fun A F => ?_
 refine Zv F (Bn (uN ((x <<< 7) ||| (x >>> 57))) F rfl rfl rfl (i_or64 (x <<< 7) (x >>> 57))) fun A F => ?_
 refine Av F fun A F => ?_
 refine Nl kk ?_
 refine Wr (ret1 F Tryz.results208 (res_tmp F rfl) (An ?_ H.below))
 rfl
open Sx in
theorem xword_c (s : St) (w0 : World) : Calls Tryz.prog 205 #[(L8 s)] w0 fun e w' => e = .returned (uN (Xo.word s)) ∧ Below w0.heap.size w0 w' := by
 refine En Tryz.func205 Tryz.ntmps205 fun A F => ?_
 have H := Sx.Own.start w0
 refine Sp fun _ kk => Zb F (d_box F H rfl rfl [uN s.a, uN s.b, uN s.c, uN s.d] rfl) fun g1 A w F H => ?_
 refine Av F fun A F => ?_
 refine Nl kk (Sp fun _ kk => Zv F (d_iaddr (v := pT g1 1) F rfl rfl rfl (by kernel_rfl)) fun A F => ?_)
 refine Av F fun A F => ?_
 refine Zv F (Bn (uN (s.b * 5#64)) F rfl rfl rfl (i_mul64 s.b 5#64)) fun A F => ?_
 refine Zw F (Dc if_208 F H (brot7_c (s.b * 5#64) _)) fun A w F H => ?_
 refine Zv F (Bn (uN ((Xo.rotl (s.b * 5#64) 7) * 9#64)) F rfl rfl rfl (i_mul64 (Xo.rotl (s.b * 5#64) 7) 9#64)) fun A F => ?_
 refine Av F fun A F => ?_
 refine Nl kk ?_
 refine Wr (ret1 F Tryz.results205 (res_tmp F rfl) (An ?_ H.below))
 rfl
abbrev L47 (x0 : BitVec 64) (x1 : BitVec 128) : Value := .agg #[iI 1, uN (Mx.jump x0 (Wd.lo x1)), iU 0, iU 0, iU 0, iU 0, uN (Wd.hi 0#128), uN (Wd.lo 0#128), uN (Wd.hi 0#128), uN (Wd.lo 0#128), uN (Wd.hi 0#128), uN (Wd.lo 0#128), iW 0, iW 0, bF]
abbrev L48 (x0 : BitVec 64) (x1 : BitVec 128) : List Value := [iI 1, uN (Mx.jump x0 (Wd.lo x1)), iU 0, iU 0, iU 0, iU 0, uN (Wd.hi 0#128), uN (Wd.lo 0#128), uN (Wd.hi 0#128), uN (Wd.lo 0#128), uN (Wd.hi 0#128), uN (Wd.lo 0#128), iW 0, iW 0, bF]
open Sx in
theorem gjump1_c (gk : Int) (gm : BitVec 64) (gx : St) (ps pi hc : BitVec 128) (k0 k1 : BitVec 32) (hb : Bool) (n : BitVec 128) (w0 : World) : Calls Tryz.prog 183 #[.agg #[], (L37 gk gm gx ps pi hc k0 k1 hb), .agg #[uH n, uL n]] w0 fun e w' => e = .returned (L47 gm n) ∧ Below w0.heap.size w0 w' := by
 refine En Tryz.func183 Tryz.ntmps183 fun A F => ?_
 have H := Sx.Own.start w0
 refine Sp fun _ kk => Zb F (d_box F H rfl rfl [] rfl) fun g1 A w F H => ?_
 refine Zb F (d_box F H rfl rfl (L39 gk gm gx ps pi hc k0 k1 hb) rfl) fun g2 A w F H => ?_
 refine Zb F (d_box F H rfl rfl [uH n, uL n] rfl) fun g3 A w F H => ?_
 refine Zb F (d_alloc H rfl L6 zero_35) fun g4 A w F H => ?_
 refine Nl kk (Sp fun _ kk => ?_)
 iterate 3 (refine Av F ?_; intro A F)
 refine Zw F (Dc if_190 F H (mjump_c gm n _)) fun A w F H => ?_
 refine Zv F (d_build (qs := #[(0, iI 1), (1, uN (Mx.jump gm (Wd.lo n)))]) (v := (L47 gm n)) F rfl rfl (by kernel_rfl)) fun A F => ?_
 refine Zs 0 (L48 gm n) sz_35 F H fun A w F H => ?_
 refine Nl kk ?_
 refine Wr (ret1 F Tryz.results183 (res_row (i := 0) (xs := [iI 1, uN (Mx.jump gm (Wd.lo n)), iU 0, iU 0, iU 0, iU 0, uN (Wd.hi 0#128), uN (Wd.lo 0#128), uN (Wd.hi 0#128), uN (Wd.lo 0#128), uN (Wd.hi 0#128), uN (Wd.lo 0#128), iW 0, iW 0, bF]) rw_35 F H rfl rfl rfl rfl) (An ?_ H.below))
 rfl
abbrev L49 (x0 : BitVec 128) (x1 : St) : Value := .agg #[iI 2, iU 0, iU ((Xo.it x0.toNat x1).a.toNat), iU ((Xo.it x0.toNat x1).b.toNat), iU ((Xo.it x0.toNat x1).c.toNat), iU ((Xo.it x0.toNat x1).d.toNat), uN (Wd.hi 0#128), uN (Wd.lo 0#128), uN (Wd.hi 0#128), uN (Wd.lo 0#128), uN (Wd.hi 0#128), uN (Wd.lo 0#128), iW 0, iW 0, bF]
abbrev L50 (x0 : BitVec 128) (x1 : St) : List Value := [iI 2, iU 0, iU ((Xo.it x0.toNat x1).a.toNat), iU ((Xo.it x0.toNat x1).b.toNat), iU ((Xo.it x0.toNat x1).c.toNat), iU ((Xo.it x0.toNat x1).d.toNat), uN (Wd.hi 0#128), uN (Wd.lo 0#128), uN (Wd.hi 0#128), uN (Wd.lo 0#128), uN (Wd.hi 0#128), uN (Wd.lo 0#128), iW 0, iW 0, bF]
open Sx in
theorem gjump2_c (gk : Int) (gm : BitVec 64) (gx : St) (ps pi hc : BitVec 128) (k0 k1 : BitVec 32) (hb : Bool) (n : BitVec 128) (hr : Xj.right gx = true) (w0 : World) : Calls Tryz.prog 195 #[.agg #[], (L37 gk gm gx ps pi hc k0 k1 hb), .agg #[uH n, uL n]] w0 fun e w' => e = .returned (L49 n gx) ∧ Below w0.heap.size w0 w' := by
 refine En Tryz.func195 Tryz.ntmps195 fun A F => ?_
 have H := Sx.Own.start w0
 refine Sp fun _ kk => Zb F (d_box F H rfl rfl [] rfl) fun g1 A w F H => ?_
 refine Zb F (d_box F H rfl rfl (L39 gk gm gx ps pi hc k0 k1 hb) rfl) fun g2 A w F H => ?_
 refine Zb F (d_box F H rfl rfl [uH n, uL n] rfl) fun g3 A w F H => ?_
 refine Zb F (d_alloc H rfl L6 zero_35) fun g4 A w F H => ?_
 refine Nl kk (Sp fun _ kk => ?_)
 iterate 3 (refine Av F ?_; intro A F)
 refine Zw F (Dc if_202 F H (xjump_c gx n (hr) _)) fun A w F H => ?_
 iterate 3 (refine Av F ?_; intro A F)
 refine Zb F (d_alloc H rfl [iU 0, iU 0, iU 0, iU 0] zero_24) fun g5 A w F H => ?_
 refine Zs 0 [iU ((Xo.it n.toNat gx).a.toNat), iU ((Xo.it n.toNat gx).b.toNat), iU ((Xo.it n.toNat gx).c.toNat), iU ((Xo.it n.toNat gx).d.toNat)] sz_24 F H fun A w F H => ?_
 refine Av F fun A F => ?_
 refine Nl kk (Sp fun _ kk => Av F fun A F => ?_)
 refine Zv F (d_build (qs := #[(0, iI 2), (2, (L14 n gx))]) (v := (L49 n gx)) F rfl rfl (by kernel_rfl)) fun A F => ?_
 refine Zs 1 (L50 n gx) sz_35 F H fun A w F H => ?_
 refine Nl kk ?_
 refine Wr (ret1 F Tryz.results195 (res_row (i := 1) (xs := [iI 2, iU 0, iU ((Xo.it n.toNat gx).a.toNat), iU ((Xo.it n.toNat gx).b.toNat), iU ((Xo.it n.toNat gx).c.toNat), iU ((Xo.it n.toNat gx).d.toNat), uN (Wd.hi 0#128), uN (Wd.lo 0#128), uN (Wd.hi 0#128), uN (Wd.lo 0#128), uN (Wd.hi 0#128), uN (Wd.lo 0#128), iW 0, iW 0, bF]) rw_35 F H rfl rfl rfl rfl) (An ?_ H.below))
 rfl
abbrev L51 (x0 x1 x2 : BitVec 128) : Value := .agg #[iI 3, iU 0, iU 0, iU 0, iU 0, iU 0, uH ((Pc.jump ⟨x0, x1⟩ x2).s), uL ((Pc.jump ⟨x0, x1⟩ x2).s), uH x1, uL x1, uN (Wd.hi 0#128), uN (Wd.lo 0#128), iW 0, iW 0, bF]
abbrev L52 (x0 x1 x2 : BitVec 128) : List Value := [iI 3, iU 0, iU 0, iU 0, iU 0, iU 0, uH ((Pc.jump ⟨x0, x1⟩ x2).s), uL ((Pc.jump ⟨x0, x1⟩ x2).s), uH x1, uL x1, uN (Wd.hi 0#128), uN (Wd.lo 0#128), iW 0, iW 0, bF]
open Sx in
theorem gjump3_c (gk : Int) (gm : BitVec 64) (gx : St) (ps pi hc : BitVec 128) (k0 k1 : BitVec 32) (hb : Bool) (n : BitVec 128) (hr : Af.odd pi = true) (w0 : World) : Calls Tryz.prog 242 #[.agg #[], (L37 gk gm gx ps pi hc k0 k1 hb), .agg #[uH n, uL n]] w0 fun e w' => e = .returned (L51 ps pi n) ∧ Below w0.heap.size w0 w' := by
 refine En Tryz.func242 Tryz.ntmps242 fun A F => ?_
 have H := Sx.Own.start w0
 refine Sp fun _ kk => Zb F (d_box F H rfl rfl [] rfl) fun g1 A w F H => ?_
 refine Zb F (d_box F H rfl rfl (L39 gk gm gx ps pi hc k0 k1 hb) rfl) fun g2 A w F H => ?_
 refine Zb F (d_box F H rfl rfl [uH n, uL n] rfl) fun g3 A w F H => ?_
 refine Zb F (d_alloc H rfl L6 zero_35) fun g4 A w F H => ?_
 refine Nl kk (Sp fun _ kk => ?_)
 iterate 3 (refine Av F ?_; intro A F)
 refine Zw F (Dc if_249 F H (pjump_ok ps pi n (hr) _)) fun A w F H => ?_
 iterate 3 (refine Av F ?_; intro A F)
 refine Zb F (d_alloc H rfl L3 zero_28) fun g5 A w F H => ?_
 refine Zs 0 [uH ((Pc.jump ⟨ps, pi⟩ n).s), uL ((Pc.jump ⟨ps, pi⟩ n).s), uH pi, uL pi] sz_28 F H fun A w F H => ?_
 refine Av F fun A F => ?_
 refine Nl kk (Sp fun _ kk => Av F fun A F => ?_)
 refine Zv F (d_build (qs := #[(0, iI 3), (3, .agg #[uH ((Pc.jump ⟨ps, pi⟩ n).s), uL ((Pc.jump ⟨ps, pi⟩ n).s), uH pi, uL pi])]) (v := (L51 ps pi n)) F rfl rfl (by kernel_rfl)) fun A F => ?_
 refine Zs 1 (L52 ps pi n) sz_35 F H fun A w F H => ?_
 refine Nl kk ?_
 refine Wr (ret1 F Tryz.results242 (res_row (i := 1) (xs := [iI 3, iU 0, iU 0, iU 0, iU 0, iU 0, uH ((Pc.jump ⟨ps, pi⟩ n).s), uL ((Pc.jump ⟨ps, pi⟩ n).s), uH pi, uL pi, uN (Wd.hi 0#128), uN (Wd.lo 0#128), iW 0, iW 0, bF]) rw_35 F H rfl rfl rfl rfl) (An ?_ H.below))
 rfl
abbrev L53 (x0 : BitVec 128) (x1 x2 : BitVec 32) (x3 : Bool) (x4 : BitVec 128) : Value := .agg #[iI 4, iU 0, iU 0, iU 0, iU 0, iU 0, uN (Wd.hi 0#128), uN (Wd.lo 0#128), uN (Wd.hi 0#128), uN (Wd.lo 0#128), uH ((Hf.jump ⟨x0, x1, x2, x3⟩ x4).c), uL ((Hf.jump ⟨x0, x1, x2, x3⟩ x4).c), iW (((Hf.jump ⟨x0, x1, x2, x3⟩ x4).k0).toNat), iW (((Hf.jump ⟨x0, x1, x2, x3⟩ x4).k1).toNat), .bool ((Hf.jump ⟨x0, x1, x2, x3⟩ x4).b)]
abbrev L54 (x0 : BitVec 128) (x1 x2 : BitVec 32) (x3 : Bool) (x4 : BitVec 128) : List Value := [iI 4, iU 0, iU 0, iU 0, iU 0, iU 0, uN (Wd.hi 0#128), uN (Wd.lo 0#128), uN (Wd.hi 0#128), uN (Wd.lo 0#128), uH ((Hf.jump ⟨x0, x1, x2, x3⟩ x4).c), uL ((Hf.jump ⟨x0, x1, x2, x3⟩ x4).c), iW (((Hf.jump ⟨x0, x1, x2, x3⟩ x4).k0).toNat), iW (((Hf.jump ⟨x0, x1, x2, x3⟩ x4).k1).toNat), .bool ((Hf.jump ⟨x0, x1, x2, x3⟩ x4).b)]
open Sx in
theorem gjump4_c (gk : Int) (gm : BitVec 64) (gx : St) (ps pi hc : BitVec 128) (k0 k1 : BitVec 32) (hb : Bool) (n : BitVec 128) (w0 : World) : Calls Tryz.prog 260 #[.agg #[], (L37 gk gm gx ps pi hc k0 k1 hb), .agg #[uH n, uL n]] w0 fun e w' => e = .returned (L53 hc k0 k1 hb n) ∧ Below w0.heap.size w0 w' := by
 refine En Tryz.func260 Tryz.ntmps260 fun A F => ?_
 have H := Sx.Own.start w0
 refine Sp fun _ kk => Zb F (d_box F H rfl rfl [] rfl) fun g1 A w F H => ?_
 refine Zb F (d_box F H rfl rfl (L39 gk gm gx ps pi hc k0 k1 hb) rfl) fun g2 A w F H => ?_
 refine Zb F (d_box F H rfl rfl [uH n, uL n] rfl) fun g3 A w F H => ?_
 refine Zb F (d_alloc H rfl L6 zero_35) fun g4 A w F H => ?_
 refine Nl kk (Sp fun _ kk => ?_)
 iterate 3 (refine Av F ?_; intro A F)
 refine Zw F (Dc if_267 F H (hjump_c hc k0 k1 hb n _)) fun A w F H => ?_
 refine Zv F (d_build (qs := #[(0, iI 4), (4, .agg #[uH ((Hf.jump ⟨hc, k0, k1, hb⟩ n).c), uL ((Hf.jump ⟨hc, k0, k1, hb⟩ n).c), iW (((Hf.jump ⟨hc, k0, k1, hb⟩ n).k0).toNat), iW (((Hf.jump ⟨hc, k0, k1, hb⟩ n).k1).toNat), .bool ((Hf.jump ⟨hc, k0, k1, hb⟩ n).b)])]) (v := (L53 hc k0 k1 hb n)) F rfl rfl (by kernel_rfl)) fun A F => ?_
 refine Zs 0 (L54 hc k0 k1 hb n) sz_35 F H fun A w F H => ?_
 refine Nl kk ?_
 refine Wr (ret1 F Tryz.results260 (res_row (i := 0) (xs := [iI 4, iU 0, iU 0, iU 0, iU 0, iU 0, uN (Wd.hi 0#128), uN (Wd.lo 0#128), uN (Wd.hi 0#128), uN (Wd.lo 0#128), uH ((Hf.jump ⟨hc, k0, k1, hb⟩ n).c), uL ((Hf.jump ⟨hc, k0, k1, hb⟩ n).c), iW (((Hf.jump ⟨hc, k0, k1, hb⟩ n).k0).toNat), iW (((Hf.jump ⟨hc, k0, k1, hb⟩ n).k1).toNat), .bool ((Hf.jump ⟨hc, k0, k1, hb⟩ n).b)]) rw_35 F H rfl rfl rfl rfl) (An ?_ H.below))
 rfl
open Sx in
theorem gword1_c (gk : Int) (gm : BitVec 64) (gx : St) (ps pi hc : BitVec 128) (k0 k1 : BitVec 32) (hb : Bool) (w0 : World) : Calls Tryz.prog 189 #[.agg #[], (L37 gk gm gx ps pi hc k0 k1 hb)] w0 fun e w' => e = .returned (uN (Mx.word gm)) ∧ Below w0.heap.size w0 w' := by
 refine En Tryz.func189 Tryz.ntmps189 fun A F => ?_
 have H := Sx.Own.start w0
 refine Sp fun _ kk => Zb F (d_box F H rfl rfl [] rfl) fun g1 A w F H => ?_
 refine Zb F (d_box F H rfl rfl (L39 gk gm gx ps pi hc k0 k1 hb) rfl) fun g2 A w F H => ?_
 refine Av F fun A F => ?_
 refine Nl kk (Sp fun _ kk => ?_)
 iterate 2 (refine Av F ?_; intro A F)
 refine Zw F (Dc if_149 F H (mword_c gm _)) fun A w F H => ?_
 refine Av F fun A F => ?_
 refine Nl kk ?_
 refine Wr (ret1 F Tryz.results189 (res_tmp F rfl) (An ?_ H.below))
 rfl
open Sx in
theorem gword2_c (gk : Int) (gm : BitVec 64) (gx : St) (ps pi hc : BitVec 128) (k0 k1 : BitVec 32) (hb : Bool) (w0 : World) : Calls Tryz.prog 201 #[.agg #[], (L37 gk gm gx ps pi hc k0 k1 hb)] w0 fun e w' => e = .returned (uN (Xo.word gx)) ∧ Below w0.heap.size w0 w' := by
 refine En Tryz.func201 Tryz.ntmps201 fun A F => ?_
 have H := Sx.Own.start w0
 refine Sp fun _ kk => Zb F (d_box F H rfl rfl [] rfl) fun g1 A w F H => ?_
 refine Zb F (d_box F H rfl rfl (L39 gk gm gx ps pi hc k0 k1 hb) rfl) fun g2 A w F H => ?_
 refine Av F fun A F => ?_
 refine Nl kk (Sp fun _ kk => ?_)
 iterate 2 (refine Av F ?_; intro A F)
 refine Zw F (Dc if_205 F H (xword_c gx _)) fun A w F H => ?_
 refine Av F fun A F => ?_
 refine Nl kk ?_
 refine Wr (ret1 F Tryz.results201 (res_tmp F rfl) (An ?_ H.below))
 rfl
open Sx in
theorem gword3_c (gk : Int) (gm : BitVec 64) (gx : St) (ps pi hc : BitVec 128) (k0 k1 : BitVec 32) (hb : Bool) (w0 : World) : Calls Tryz.prog 248 #[.agg #[], (L37 gk gm gx ps pi hc k0 k1 hb)] w0 fun e w' => e = .returned (uN (Pc.word ps)) ∧ Below w0.heap.size w0 w' := by
 refine En Tryz.func248 Tryz.ntmps248 fun A F => ?_
 have H := Sx.Own.start w0
 refine Sp fun _ kk => Zb F (d_box F H rfl rfl [] rfl) fun g1 A w F H => ?_
 refine Zb F (d_box F H rfl rfl (L39 gk gm gx ps pi hc k0 k1 hb) rfl) fun g2 A w F H => ?_
 refine Av F fun A F => ?_
 refine Nl kk (Sp fun _ kk => ?_)
 iterate 2 (refine Av F ?_; intro A F)
 refine Zw F (Dc if_252 F H (pword_c ps pi _)) fun A w F H => ?_
 refine Av F fun A F => ?_
 refine Nl kk ?_
 refine Wr (ret1 F Tryz.results248 (res_tmp F rfl) (An ?_ H.below))
 rfl
open Sx in
theorem gword4_c (gk : Int) (gm : BitVec 64) (gx : St) (ps pi hc : BitVec 128) (k0 k1 : BitVec 32) (hb : Bool) (w0 : World) : Calls Tryz.prog 266 #[.agg #[], (L37 gk gm gx ps pi hc k0 k1 hb)] w0 fun e w' => e = .returned (uN (Hf.word ⟨hc, k0, k1, hb⟩)) ∧ Below w0.heap.size w0 w' := by
 refine En Tryz.func266 Tryz.ntmps266 fun A F => ?_
 have H := Sx.Own.start w0
 refine Sp fun _ kk => Zb F (d_box F H rfl rfl [] rfl) fun g1 A w F H => ?_
 refine Zb F (d_box F H rfl rfl (L39 gk gm gx ps pi hc k0 k1 hb) rfl) fun g2 A w F H => ?_
 refine Av F fun A F => ?_
 refine Nl kk (Sp fun _ kk => ?_)
 iterate 2 (refine Av F ?_; intro A F)
 refine Zw F (Dc if_269 F H (hword_c hc k0 k1 hb _)) fun A w F H => ?_
 refine Av F fun A F => ?_
 refine Nl kk ?_
 refine Wr (ret1 F Tryz.results266 (res_tmp F rfl) (An ?_ H.below))
 rfl
abbrev L55 (x0 : BitVec 64) : Value := .agg #[iI 1, uN (Mx.step x0), iU 0, iU 0, iU 0, iU 0, uN (Wd.hi 0#128), uN (Wd.lo 0#128), uN (Wd.hi 0#128), uN (Wd.lo 0#128), uN (Wd.hi 0#128), uN (Wd.lo 0#128), iW 0, iW 0, bF]
abbrev L56 (x0 : BitVec 64) : List Value := [iI 1, uN (Mx.step x0), iU 0, iU 0, iU 0, iU 0, uN (Wd.hi 0#128), uN (Wd.lo 0#128), uN (Wd.hi 0#128), uN (Wd.lo 0#128), uN (Wd.hi 0#128), uN (Wd.lo 0#128), iW 0, iW 0, bF]
open Sx in
theorem gstep1_c (gk : Int) (gm : BitVec 64) (gx : St) (ps pi hc : BitVec 128) (k0 k1 : BitVec 32) (hb : Bool) (w0 : World) : Calls Tryz.prog 187 #[.agg #[], (L37 gk gm gx ps pi hc k0 k1 hb)] w0 fun e w' => e = .returned (L55 gm) ∧ Below w0.heap.size w0 w' := by
 refine En Tryz.func187 Tryz.ntmps187 fun A F => ?_
 have H := Sx.Own.start w0
 refine Sp fun _ kk => Zb F (d_box F H rfl rfl [] rfl) fun g1 A w F H => ?_
 refine Zb F (d_box F H rfl rfl (L39 gk gm gx ps pi hc k0 k1 hb) rfl) fun g2 A w F H => ?_
 refine Zb F (d_alloc H rfl L6 zero_35) fun g3 A w F H => ?_
 refine Nl kk (Sp fun _ kk => ?_)
 iterate 2 (refine Av F ?_; intro A F)
 refine Zv F (d_callq (vs := [uN gm]) (v := uN (Mx.step gm)) if_150 F rfl rfl (mstep_c gm _)) fun A F => ?_
 refine Zv F (d_build (qs := #[(0, iI 1), (1, uN (Mx.step gm))]) (v := (L55 gm)) F rfl rfl (by kernel_rfl)) fun A F => ?_
 refine Zs 0 (L56 gm) sz_35 F H fun A w F H => ?_
 refine Nl kk ?_
 refine Wr (ret1 F Tryz.results187 (res_row (i := 0) (xs := [iI 1, uN (Mx.step gm), iU 0, iU 0, iU 0, iU 0, uN (Wd.hi 0#128), uN (Wd.lo 0#128), uN (Wd.hi 0#128), uN (Wd.lo 0#128), uN (Wd.hi 0#128), uN (Wd.lo 0#128), iW 0, iW 0, bF]) rw_35 F H rfl rfl rfl rfl) (An ?_ H.below))
 rfl
abbrev L57 (x0 : St) : Value := .agg #[iI 2, iU 0, iU ((Xo.step x0).a.toNat), iU ((Xo.step x0).b.toNat), iU ((Xo.step x0).c.toNat), iU ((Xo.step x0).d.toNat), uN (Wd.hi 0#128), uN (Wd.lo 0#128), uN (Wd.hi 0#128), uN (Wd.lo 0#128), uN (Wd.hi 0#128), uN (Wd.lo 0#128), iW 0, iW 0, bF]
abbrev L58 (x0 : St) : List Value := [iI 2, iU 0, iU ((Xo.step x0).a.toNat), iU ((Xo.step x0).b.toNat), iU ((Xo.step x0).c.toNat), iU ((Xo.step x0).d.toNat), uN (Wd.hi 0#128), uN (Wd.lo 0#128), uN (Wd.hi 0#128), uN (Wd.lo 0#128), uN (Wd.hi 0#128), uN (Wd.lo 0#128), iW 0, iW 0, bF]
open Sx in
theorem gstep2_c (gk : Int) (gm : BitVec 64) (gx : St) (ps pi hc : BitVec 128) (k0 k1 : BitVec 32) (hb : Bool) (w0 : World) : Calls Tryz.prog 199 #[.agg #[], (L37 gk gm gx ps pi hc k0 k1 hb)] w0 fun e w' => e = .returned (L57 gx) ∧ Below w0.heap.size w0 w' := by
 refine En Tryz.func199 Tryz.ntmps199 fun A F => ?_
 have H := Sx.Own.start w0
 refine Sp fun _ kk => Zb F (d_box F H rfl rfl [] rfl) fun g1 A w F H => ?_
 refine Zb F (d_box F H rfl rfl (L39 gk gm gx ps pi hc k0 k1 hb) rfl) fun g2 A w F H => ?_
 refine Zb F (d_alloc H rfl L6 zero_35) fun g3 A w F H => ?_
 refine Nl kk (Sp fun _ kk => ?_)
 iterate 2 (refine Av F ?_; intro A F)
 refine Zw F (Dc if_204 F H (xstep_c gx _)) fun A w F H => ?_
 refine Zv F (d_build (qs := #[(0, iI 2), (2, (L9 gx))]) (v := (L57 gx)) F rfl rfl (by kernel_rfl)) fun A F => ?_
 refine Zs 0 (L58 gx) sz_35 F H fun A w F H => ?_
 refine Nl kk ?_
 refine Wr (ret1 F Tryz.results199 (res_row (i := 0) (xs := [iI 2, iU 0, iU ((Xo.step gx).a.toNat), iU ((Xo.step gx).b.toNat), iU ((Xo.step gx).c.toNat), iU ((Xo.step gx).d.toNat), uN (Wd.hi 0#128), uN (Wd.lo 0#128), uN (Wd.hi 0#128), uN (Wd.lo 0#128), uN (Wd.hi 0#128), uN (Wd.lo 0#128), iW 0, iW 0, bF]) rw_35 F H rfl rfl rfl rfl) (An ?_ H.below))
 rfl
abbrev L59 (x0 x1 : BitVec 128) : Value := .agg #[iI 3, iU 0, iU 0, iU 0, iU 0, iU 0, uH ((Pc.step ⟨x0, x1⟩).s), uL ((Pc.step ⟨x0, x1⟩).s), uH x1, uL x1, uN (Wd.hi 0#128), uN (Wd.lo 0#128), iW 0, iW 0, bF]
abbrev L60 (x0 x1 : BitVec 128) : List Value := [iI 3, iU 0, iU 0, iU 0, iU 0, iU 0, uH ((Pc.step ⟨x0, x1⟩).s), uL ((Pc.step ⟨x0, x1⟩).s), uH x1, uL x1, uN (Wd.hi 0#128), uN (Wd.lo 0#128), iW 0, iW 0, bF]
open Sx in
theorem gstep3_c (gk : Int) (gm : BitVec 64) (gx : St) (ps pi hc : BitVec 128) (k0 k1 : BitVec 32) (hb : Bool) (w0 : World) : Calls Tryz.prog 246 #[.agg #[], (L37 gk gm gx ps pi hc k0 k1 hb)] w0 fun e w' => e = .returned (L59 ps pi) ∧ Below w0.heap.size w0 w' := by
 refine En Tryz.func246 Tryz.ntmps246 fun A F => ?_
 have H := Sx.Own.start w0
 refine Sp fun _ kk => Zb F (d_box F H rfl rfl [] rfl) fun g1 A w F H => ?_
 refine Zb F (d_box F H rfl rfl (L39 gk gm gx ps pi hc k0 k1 hb) rfl) fun g2 A w F H => ?_
 refine Zb F (d_alloc H rfl L6 zero_35) fun g3 A w F H => ?_
 refine Nl kk (Sp fun _ kk => ?_)
 iterate 2 (refine Av F ?_; intro A F)
 refine Zw F (Dc if_251 F H (pstep_c ps pi _)) fun A w F H => ?_
 refine Zv F (d_build (qs := #[(0, iI 3), (3, .agg #[uH ((Pc.step ⟨ps, pi⟩).s), uL ((Pc.step ⟨ps, pi⟩).s), uH pi, uL pi])]) (v := (L59 ps pi)) F rfl rfl (by kernel_rfl)) fun A F => ?_
 refine Zs 0 (L60 ps pi) sz_35 F H fun A w F H => ?_
 refine Nl kk ?_
 refine Wr (ret1 F Tryz.results246 (res_row (i := 0) (xs := [iI 3, iU 0, iU 0, iU 0, iU 0, iU 0, uH ((Pc.step ⟨ps, pi⟩).s), uL ((Pc.step ⟨ps, pi⟩).s), uH pi, uL pi, uN (Wd.hi 0#128), uN (Wd.lo 0#128), iW 0, iW 0, bF]) rw_35 F H rfl rfl rfl rfl) (An ?_ H.below))
 rfl
abbrev L61 (x0 : BitVec 128) (x1 x2 : BitVec 32) (x3 : Bool) : Value := .agg #[iI 4, iU 0, iU 0, iU 0, iU 0, iU 0, uN (Wd.hi 0#128), uN (Wd.lo 0#128), uN (Wd.hi 0#128), uN (Wd.lo 0#128), uH ((Hf.step ⟨x0, x1, x2, x3⟩).c), uL ((Hf.step ⟨x0, x1, x2, x3⟩).c), iW (((Hf.step ⟨x0, x1, x2, x3⟩).k0).toNat), iW (((Hf.step ⟨x0, x1, x2, x3⟩).k1).toNat), .bool ((Hf.step ⟨x0, x1, x2, x3⟩).b)]
open Sx in
theorem gstep4_c (gk : Int) (gm : BitVec 64) (gx : St) (ps pi hc : BitVec 128) (k0 k1 : BitVec 32) (hb : Bool) (w0 : World) : Calls Tryz.prog 264 #[.agg #[], (L37 gk gm gx ps pi hc k0 k1 hb)] w0 fun e w' => e = .returned (L61 hc k0 k1 hb) ∧ Below w0.heap.size w0 w' := by
 refine En Tryz.func264 Tryz.ntmps264 fun A F => ?_
 have H := Sx.Own.start w0
 refine Sp fun _ kk => Zb F (d_box F H rfl rfl [] rfl) fun g1 A w F H => ?_
 refine Zb F (d_box F H rfl rfl (L39 gk gm gx ps pi hc k0 k1 hb) rfl) fun g2 A w F H => ?_
 refine Zb F (d_alloc H rfl L6 zero_35) fun g3 A w F H => ?_
 refine Nl kk (Sp fun _ kk => ?_)
 iterate 2 (refine Av F ?_; intro A F)
 refine Zw F (Dc if_268 F H (hstep_c hc k0 k1 hb _)) fun A w F H => ?_
 refine Zv F (d_build (qs := #[(0, iI 4), (4, (L33 hc k0 k1 hb))]) (v := (L61 hc k0 k1 hb)) F rfl rfl (by kernel_rfl)) fun A F => ?_
 refine Zs 0 [iI 4, iU 0, iU 0, iU 0, iU 0, iU 0, uN (Wd.hi 0#128), uN (Wd.lo 0#128), uN (Wd.hi 0#128), uN (Wd.lo 0#128), uH ((Hf.step ⟨hc, k0, k1, hb⟩).c), uL ((Hf.step ⟨hc, k0, k1, hb⟩).c), iW (((Hf.step ⟨hc, k0, k1, hb⟩).k0).toNat), iW (((Hf.step ⟨hc, k0, k1, hb⟩).k1).toNat), .bool ((Hf.step ⟨hc, k0, k1, hb⟩).b)] sz_35 F H fun A w F H => ?_
 refine Nl kk ?_
 refine Wr (ret1 F Tryz.results264 (res_row (i := 0) (xs := [iI 4, iU 0, iU 0, iU 0, iU 0, iU 0, uN (Wd.hi 0#128), uN (Wd.lo 0#128), uN (Wd.hi 0#128), uN (Wd.lo 0#128), uH ((Hf.step ⟨hc, k0, k1, hb⟩).c), uL ((Hf.step ⟨hc, k0, k1, hb⟩).c), iW (((Hf.step ⟨hc, k0, k1, hb⟩).k0).toNat), iW (((Hf.step ⟨hc, k0, k1, hb⟩).k1).toNat), .bool ((Hf.step ⟨hc, k0, k1, hb⟩).b)]) rw_35 F H rfl rfl rfl rfl) (An ?_ H.below))
 rfl
abbrev L62 (x0 : BitVec 64) : List Value := [.agg #[iI 1, uN x0, iU 0, iU 0, iU 0, iU 0, uN (Wd.hi 0#128), uN (Wd.lo 0#128), uN (Wd.hi 0#128), uN (Wd.lo 0#128), uN (Wd.hi 0#128), uN (Wd.lo 0#128), iW 0, iW 0, bF]]
open Sx in
theorem gcheck1_ok (gm : BitVec 64) (w0 : World) : Calls Tryz.prog 7 #[(L38 gm)] w0 fun e w' => e = .returned (iI 0) ∧ Below w0.heap.size w0 w' := by
 refine En Tryz.func7 Tryz.ntmps7 fun A F => ?_
 have H := Sx.Own.start w0
 refine Sp fun _ kk => Zb F (d_box F H rfl rfl (L40 gm) rfl) fun g1 A w F H => ?_
 refine Av F fun A F => ?_
 refine Nl kk (Sp fun _ kk => ?_)
 iterate 2 (refine Av F ?_; intro A F)
 refine Zw F (Dc if_26 F H (gof1_c _)) fun A w F H => ?_
 refine Av F fun A F => ?_
 refine Nl kk (Sx.seq fun K3 hK3 => wp_block (Sp fun _ kk => Av F fun A F => ?_))
 refine Zn bF F fun A F => ?_
 refine Av F fun A F => ?_
 refine Nl kk (condF F rfl (Sx.seq fun K5 hK5 => ?_))
 have F := F.tq [(1, pT g1 0), (2, iI 0), (3, .iface 131 (.agg #[]))] rfl
 refine Dn F [some (.iface 131 (.agg #[])), some (L38 gm), some (bT), some (bF), some (bF), some (.iface 131 (.agg #[])), some (L38 gm), some (L38 gm), some (L38 gm), some (bF), some (bF), some (bF)] (fun L A w => Sx.Own w0 w [(true, g1, (L40 gm))] []) H.drew ?_ ?_
 ·refine ⟨?_, ?_, ?_, ?_, ?_, ?_, ?_, ?_, ?_, ?_, ?_, ?_, trivial⟩
  ·exact Sa
  ·exact SV (fun _ _ _ F H => Lr 0 (L40 gm) rw_35 F H)
  ·intro L A w up hun hd F H
   refine step_on rfl (d_callI (vs := (L62 gm)) (v := bT) im_185 F H rfl rfl rfl (gright1_c 1 gm Xo.zero 0#128 0#128 0#128 0#32 0#32 false _)) ?_
   rintro xv w' ⟨hx, H⟩
   exact ⟨Cs hx, H⟩
  ·exact SV (fun _ _ _ F _ => d_un (v := bF) F rfl rfl rfl)
  ·exact Sa
  ·exact SVg (fun _ _ _ F _ => d_move F (Or.inl rfl) rfl)
  ·exact SVg (fun _ _ _ F H => Lr 0 (L40 gm) rw_35 F H)
  ·intro L A w up hun hd F H
   refine step_ong rfl (guard_known (d := 15) (b := false) F rfl rfl) rfl (d_callI (vs := (L62 gm)) (v := (L38 gm)) im_181 F H rfl rfl rfl (galone1_c 1 gm Xo.zero 0#128 0#128 0#128 0#32 0#32 false _)) ?_
   rintro xv w' ⟨hx, H⟩
   exact ⟨Cs hx, H⟩
  ·exact SVg (fun _ _ _ F H => Lr 0 (L40 gm) rw_35 F H)
  ·exact SVg (fun _ _ _ F _ => Bn bF F rfl rfl rfl (i_neS (u := (⟨1, gm, Xo.zero, 0#128, 0#128, 0#128, 0#32, 0#32, false⟩ : Gs)) (v := (⟨1, gm, Xo.zero, 0#128, 0#128, 0#128, 0#32, 0#32, false⟩ : Gs)) (by rw [show Sx.eqbS (⟨1, gm, Xo.zero, 0#128, 0#128, 0#128, 0#32, 0#32, false⟩ : Gs) (⟨1, gm, Xo.zero, 0#128, 0#128, 0#128, 0#32, 0#32, false⟩ : Gs) = true from Sx.eqbS_self] <;> rfl)))
  ·exact Sa
  ·exact Sa
 ·intro L A w hL F H
  have F := F.tq [(2, iI 0), (10, bF)] rfl
  refine hK5 _ _ (condF F rfl (wp_skip (hK3 _ _ (Sp fun _ kk => Av F fun A F => ?_))))
  refine Nl kk ?_
  refine Wr (ret1 F Tryz.results7 (res_tmp F rfl) (An ?_ H.below))
  rfl
abbrev L63 (x0 : St) : List Value := [.agg #[iI 2, iU 0, uN x0.a, uN x0.b, uN x0.c, uN x0.d, uN (Wd.hi 0#128), uN (Wd.lo 0#128), uN (Wd.hi 0#128), uN (Wd.lo 0#128), uN (Wd.hi 0#128), uN (Wd.lo 0#128), iW 0, iW 0, bF]]
open Sx in
theorem gcheck2_ok (gx : St) (hr : Xj.right gx = true) (w0 : World) : Calls Tryz.prog 7 #[(L41 gx)] w0 fun e w' => e = .returned (iI 0) ∧ Below w0.heap.size w0 w' := by
 refine En Tryz.func7 Tryz.ntmps7 fun A F => ?_
 have H := Sx.Own.start w0
 refine Sp fun _ kk => Zb F (d_box F H rfl rfl (L42 gx) rfl) fun g1 A w F H => ?_
 refine Av F fun A F => ?_
 refine Nl kk (Sp fun _ kk => ?_)
 iterate 2 (refine Av F ?_; intro A F)
 refine Zw F (Dc if_26 F H (gof2_c _)) fun A w F H => ?_
 refine Av F fun A F => ?_
 refine Nl kk (Sx.seq fun K3 hK3 => wp_block (Sp fun _ kk => Av F fun A F => ?_))
 refine Zn bF F fun A F => ?_
 refine Av F fun A F => ?_
 refine Nl kk (condF F rfl (Sx.seq fun K5 hK5 => ?_))
 have F := F.tq [(1, pT g1 0), (2, iI 0), (3, .iface 132 (.agg #[]))] rfl
 refine Dn F [some (.iface 132 (.agg #[])), some (L41 gx), some (bT), some (bF), some (bF), some (.iface 132 (.agg #[])), some (L41 gx), some (L41 gx), some (L41 gx), some (bF), some (bF), some (bF)] (fun L A w => Sx.Own w0 w [(true, g1, (L42 gx))] []) H.drew ?_ ?_
 ·refine ⟨?_, ?_, ?_, ?_, ?_, ?_, ?_, ?_, ?_, ?_, ?_, ?_, trivial⟩
  ·exact Sa
  ·exact SV (fun _ _ _ F H => Lr 0 (L42 gx) rw_35 F H)
  ·intro L A w up hun hd F H
   refine step_on rfl (d_callI (vs := (L63 gx)) (v := bT) im_197 F H rfl rfl rfl (Calls.val (gright2_c 2 0#64 gx 0#128 0#128 0#128 0#32 0#32 false _) rfl (congrArg Value.bool (hr)))) ?_
   rintro xv w' ⟨hx, H⟩
   exact ⟨Cs hx, H⟩
  ·exact SV (fun _ _ _ F _ => d_un (v := bF) F rfl rfl rfl)
  ·exact Sa
  ·exact SVg (fun _ _ _ F _ => d_move F (Or.inl rfl) rfl)
  ·exact SVg (fun _ _ _ F H => Lr 0 (L42 gx) rw_35 F H)
  ·intro L A w up hun hd F H
   refine step_ong rfl (guard_known (d := 15) (b := false) F rfl rfl) rfl (d_callI (vs := (L63 gx)) (v := (L41 gx)) im_193 F H rfl rfl rfl (galone2_c 2 0#64 gx 0#128 0#128 0#128 0#32 0#32 false _)) ?_
   rintro xv w' ⟨hx, H⟩
   exact ⟨Cs hx, H⟩
  ·exact SVg (fun _ _ _ F H => Lr 0 (L42 gx) rw_35 F H)
  ·exact SVg (fun _ _ _ F _ => Bn bF F rfl rfl rfl (i_neS (u := (⟨2, 0#64, gx, 0#128, 0#128, 0#128, 0#32, 0#32, false⟩ : Gs)) (v := (⟨2, 0#64, gx, 0#128, 0#128, 0#128, 0#32, 0#32, false⟩ : Gs)) (by rw [show Sx.eqbS (⟨2, 0#64, gx, 0#128, 0#128, 0#128, 0#32, 0#32, false⟩ : Gs) (⟨2, 0#64, gx, 0#128, 0#128, 0#128, 0#32, 0#32, false⟩ : Gs) = true from Sx.eqbS_self] <;> rfl)))
  ·exact Sa
  ·exact Sa
 ·intro L A w hL F H
  have F := F.tq [(2, iI 0), (10, bF)] rfl
  refine hK5 _ _ (condF F rfl (wp_skip (hK3 _ _ (Sp fun _ kk => Av F fun A F => ?_))))
  refine Nl kk ?_
  refine Wr (ret1 F Tryz.results7 (res_tmp F rfl) (An ?_ H.below))
  rfl
abbrev L64 (x0 x1 : BitVec 128) : List Value := [.agg #[iI 3, iU 0, iU 0, iU 0, iU 0, iU 0, uH x0, uL x0, uH x1, uL x1, uN (Wd.hi 0#128), uN (Wd.lo 0#128), iW 0, iW 0, bF]]
open Sx in
theorem gcheck3_ok (ps pi : BitVec 128) (hr : Af.odd pi = true) (w0 : World) : Calls Tryz.prog 7 #[(L43 ps pi)] w0 fun e w' => e = .returned (iI 0) ∧ Below w0.heap.size w0 w' := by
 refine En Tryz.func7 Tryz.ntmps7 fun A F => ?_
 have H := Sx.Own.start w0
 refine Sp fun _ kk => Zb F (d_box F H rfl rfl (L44 ps pi) rfl) fun g1 A w F H => ?_
 refine Av F fun A F => ?_
 refine Nl kk (Sp fun _ kk => ?_)
 iterate 2 (refine Av F ?_; intro A F)
 refine Zw F (Dc if_26 F H (gof3_c _)) fun A w F H => ?_
 refine Av F fun A F => ?_
 refine Nl kk (Sx.seq fun K3 hK3 => wp_block (Sp fun _ kk => Av F fun A F => ?_))
 refine Zn bF F fun A F => ?_
 refine Av F fun A F => ?_
 refine Nl kk (condF F rfl (Sx.seq fun K5 hK5 => ?_))
 have F := F.tq [(1, pT g1 0), (2, iI 0), (3, .iface 133 (.agg #[]))] rfl
 refine Dn F [some (.iface 133 (.agg #[])), some (L43 ps pi), some (bT), some (bF), some (bF), some (.iface 133 (.agg #[])), some (L43 ps pi), some (L43 ps pi), some (L43 ps pi), some (bF), some (bF), some (bF)] (fun L A w => Sx.Own w0 w [(true, g1, (L44 ps pi))] []) H.drew ?_ ?_
 ·refine ⟨?_, ?_, ?_, ?_, ?_, ?_, ?_, ?_, ?_, ?_, ?_, ?_, trivial⟩
  ·exact Sa
  ·exact SV (fun _ _ _ F H => Lr 0 (L44 ps pi) rw_35 F H)
  ·intro L A w up hun hd F H
   refine step_on rfl (d_callI (vs := (L64 ps pi)) (v := bT) im_244 F H rfl rfl rfl (Calls.val (gright3_c 3 0#64 Xo.zero ps pi 0#128 0#32 0#32 false _) rfl (congrArg Value.bool (hr)))) ?_
   rintro xv w' ⟨hx, H⟩
   exact ⟨Cs hx, H⟩
  ·exact SV (fun _ _ _ F _ => d_un (v := bF) F rfl rfl rfl)
  ·exact Sa
  ·exact SVg (fun _ _ _ F _ => d_move F (Or.inl rfl) rfl)
  ·exact SVg (fun _ _ _ F H => Lr 0 (L44 ps pi) rw_35 F H)
  ·intro L A w up hun hd F H
   refine step_ong rfl (guard_known (d := 15) (b := false) F rfl rfl) rfl (d_callI (vs := (L64 ps pi)) (v := (L43 ps pi)) im_240 F H rfl rfl rfl (galone3_c 3 0#64 Xo.zero ps pi 0#128 0#32 0#32 false _)) ?_
   rintro xv w' ⟨hx, H⟩
   exact ⟨Cs hx, H⟩
  ·exact SVg (fun _ _ _ F H => Lr 0 (L44 ps pi) rw_35 F H)
  ·exact SVg (fun _ _ _ F _ => Bn bF F rfl rfl rfl (i_neS (u := (⟨3, 0#64, Xo.zero, ps, pi, 0#128, 0#32, 0#32, false⟩ : Gs)) (v := (⟨3, 0#64, Xo.zero, ps, pi, 0#128, 0#32, 0#32, false⟩ : Gs)) (by rw [show Sx.eqbS (⟨3, 0#64, Xo.zero, ps, pi, 0#128, 0#32, 0#32, false⟩ : Gs) (⟨3, 0#64, Xo.zero, ps, pi, 0#128, 0#32, 0#32, false⟩ : Gs) = true from Sx.eqbS_self] <;> rfl)))
  ·exact Sa
  ·exact Sa
 ·intro L A w hL F H
  have F := F.tq [(2, iI 0), (10, bF)] rfl
  refine hK5 _ _ (condF F rfl (wp_skip (hK3 _ _ (Sp fun _ kk => Av F fun A F => ?_))))
  refine Nl kk ?_
  refine Wr (ret1 F Tryz.results7 (res_tmp F rfl) (An ?_ H.below))
  rfl
abbrev L65 (x0 : BitVec 128) (x1 x2 : BitVec 32) (x3 : Bool) : List Value := [.agg #[iI 4, iU 0, iU 0, iU 0, iU 0, iU 0, uN (Wd.hi 0#128), uN (Wd.lo 0#128), uN (Wd.hi 0#128), uN (Wd.lo 0#128), uH x0, uL x0, iW x1.toNat, iW x2.toNat, .bool x3]]
open Sx in
theorem gcheck4_ok (hc : BitVec 128) (k0 k1 : BitVec 32) (hb : Bool) (w0 : World) : Calls Tryz.prog 7 #[(L45 hc k0 k1 hb)] w0 fun e w' => e = .returned (iI 0) ∧ Below w0.heap.size w0 w' := by
 refine En Tryz.func7 Tryz.ntmps7 fun A F => ?_
 have H := Sx.Own.start w0
 refine Sp fun _ kk => Zb F (d_box F H rfl rfl (L46 hc k0 k1 hb) rfl) fun g1 A w F H => ?_
 refine Av F fun A F => ?_
 refine Nl kk (Sp fun _ kk => ?_)
 iterate 2 (refine Av F ?_; intro A F)
 refine Zw F (Dc if_26 F H (gof4_c _)) fun A w F H => ?_
 refine Av F fun A F => ?_
 refine Nl kk (Sx.seq fun K3 hK3 => wp_block (Sp fun _ kk => Av F fun A F => ?_))
 refine Zn bF F fun A F => ?_
 refine Av F fun A F => ?_
 refine Nl kk (condF F rfl (Sx.seq fun K5 hK5 => ?_))
 have F := F.tq [(1, pT g1 0), (2, iI 0), (3, .iface 134 (.agg #[]))] rfl
 refine Dn F [some (.iface 134 (.agg #[])), some (L45 hc k0 k1 hb), some (bT), some (bF), some (bF), some (.iface 134 (.agg #[])), some (L45 hc k0 k1 hb), some (L45 hc k0 k1 hb), some (L45 hc k0 k1 hb), some (bF), some (bF), some (bF)] (fun L A w => Sx.Own w0 w [(true, g1, (L46 hc k0 k1 hb))] []) H.drew ?_ ?_
 ·refine ⟨?_, ?_, ?_, ?_, ?_, ?_, ?_, ?_, ?_, ?_, ?_, ?_, trivial⟩
  ·exact Sa
  ·exact SV (fun _ _ _ F H => Lr 0 (L46 hc k0 k1 hb) rw_35 F H)
  ·intro L A w up hun hd F H
   refine step_on rfl (d_callI (vs := (L65 hc k0 k1 hb)) (v := bT) im_262 F H rfl rfl rfl (gright4_c 4 0#64 Xo.zero 0#128 0#128 hc k0 k1 hb _)) ?_
   rintro xv w' ⟨hx, H⟩
   exact ⟨Cs hx, H⟩
  ·exact SV (fun _ _ _ F _ => d_un (v := bF) F rfl rfl rfl)
  ·exact Sa
  ·exact SVg (fun _ _ _ F _ => d_move F (Or.inl rfl) rfl)
  ·exact SVg (fun _ _ _ F H => Lr 0 (L46 hc k0 k1 hb) rw_35 F H)
  ·intro L A w up hun hd F H
   refine step_ong rfl (guard_known (d := 15) (b := false) F rfl rfl) rfl (d_callI (vs := (L65 hc k0 k1 hb)) (v := (L45 hc k0 k1 hb)) im_258 F H rfl rfl rfl (galone4_c 4 0#64 Xo.zero 0#128 0#128 hc k0 k1 hb _)) ?_
   rintro xv w' ⟨hx, H⟩
   exact ⟨Cs hx, H⟩
  ·exact SVg (fun _ _ _ F H => Lr 0 (L46 hc k0 k1 hb) rw_35 F H)
  ·exact SVg (fun _ _ _ F _ => Bn bF F rfl rfl rfl (i_neS (u := (⟨4, 0#64, Xo.zero, 0#128, 0#128, hc, k0, k1, hb⟩ : Gs)) (v := (⟨4, 0#64, Xo.zero, 0#128, 0#128, hc, k0, k1, hb⟩ : Gs)) (by rw [show Sx.eqbS (⟨4, 0#64, Xo.zero, 0#128, 0#128, hc, k0, k1, hb⟩ : Gs) (⟨4, 0#64, Xo.zero, 0#128, 0#128, hc, k0, k1, hb⟩ : Gs) = true from Sx.eqbS_self] <;> rfl)))
  ·exact Sa
  ·exact Sa
 ·intro L A w hL F H
  have F := F.tq [(2, iI 0), (10, bF)] rfl
  refine hK5 _ _ (condF F rfl (wp_skip (hK3 _ _ (Sp fun _ kk => Av F fun A F => ?_))))
  refine Nl kk ?_
  refine Wr (ret1 F Tryz.results7 (res_tmp F rfl) (An ?_ H.below))
  rfl
open Sx in
theorem gjmp1_ok (gm : BitVec 64) (n : BitVec 128) (w0 : World) : Calls Tryz.prog 6 #[(L38 gm), .agg #[uH n, uL n]] w0 fun e w' => e = .returned (.tuple #[(L47 gm n), iI 0]) ∧ Below w0.heap.size w0 w' := by
 refine En Tryz.func6 Tryz.ntmps6 fun A F => ?_
 have H := Sx.Own.start w0
 refine Sp fun _ kk => Zb F (d_box F H rfl rfl (L40 gm) rfl) fun g1 A w F H => ?_
 refine Zb F (d_box F H rfl rfl [uH n, uL n] rfl) fun g2 A w F H => ?_
 refine Zb F (d_alloc H rfl L6 zero_35) fun g3 A w F H => ?_
 refine Av F fun A F => ?_
 refine Nl kk (Sx.seq fun K2 hK2 => Sp fun _ kk => Av F fun A F => ?_)
 refine Zw F (Dc if_7 F H (gcheck1_ok gm _)) fun A w F H => ?_
 refine Av F fun A F => ?_
 refine Nl kk (Sp fun _ kk => ?_)
 iterate 2 (refine Av F ?_; intro A F)
 refine Nl kk (condF F rfl (wp_skip (hK2 _ _ (Sx.seq fun K5 hK5 => ?_))))
 have F := F.tq [(2, pT g1 0), (3, pT g2 0), (4, pT g3 0)] rfl
 refine Dn F [some (pT g1 0), some (iI 1), some (.iface 131 (.agg #[])), some (L38 gm), some (.agg #[uH n, uL n]), some (L47 gm n), none, some (iI 0)] (fun L A w => Sx.Own w0 w [(true, g3, (cond (L 6) (L48 gm n) L6)), (true, g2, [uH n, uL n]), (true, g1, (L40 gm))] []) H.drew ?_ ?_
 ·refine ⟨?_, ?_, ?_, ?_, ?_, ?_, ?_, ?_, trivial⟩
  ·exact Sa
  ·exact SV (fun _ _ _ F H => Ld 2 one_3 F H)
  ·intro L A w up hun hd F H
   have f6 : L 6 = false := up 6 2 rfl hun
   rw [f6] at H
   refine step_on rfl (Dc if_26 F H (gof1_c _)) ?_
   rintro xv w' ⟨hx, H⟩
   exact ⟨Cs hx, (by show Sx.Own _ _ _ _; rw [show Inv.add L 2 6 = false from f6]; exact H)⟩
  ·exact SV (fun _ _ _ F H => Lr 2 (L40 gm) rw_35 F H)
  ·exact SV (fun _ _ _ F H => Lr 1 [uH n, uL n] rw_26 F H)
  ·intro L A w up hun hd F H
   have f6 : L 6 = false := up 6 5 rfl hun
   rw [f6] at H
   refine step_on rfl (d_callI (vs := [(L38 gm), .agg #[uH n, uL n]]) (v := (L47 gm n)) im_183 F H rfl rfl rfl (gjump1_c 1 gm Xo.zero 0#128 0#128 0#128 0#32 0#32 false n _)) ?_
   rintro xv w' ⟨hx, H⟩
   exact ⟨Cs hx, (by show Sx.Own _ _ _ _; rw [show Inv.add L 5 6 = false from f6]; exact H)⟩
  ·intro L A w up hun hd F H
   have f6 : L 6 = false := hun
   rw [f6] at H
   refine step_on rfl (d_store (i := 0) (xs := (L48 gm n)) (us := (L48 gm n)) sz_35 F H rfl rfl rfl rfl rfl rfl rfl (Nat.le_of_ble_eq_true rfl) rfl) ?_
   intro xv w' H
   exact ⟨Cn, H⟩
  ·exact Sa
 ·intro L A w hL F H
  have t6 : L 6 = true := hL 6 rfl
  rw [t6] at H
  have F := F.tq [(4, pT g3 0), (5, iI 0)] rfl
  refine hK5 _ _ ?_
  refine Wr (ret2 F Tryz.results6 (res_row (i := 0) (xs := [iI 1, uN (Mx.jump gm (Wd.lo n)), iU 0, iU 0, iU 0, iU 0, uN (Wd.hi 0#128), uN (Wd.lo 0#128), uN (Wd.hi 0#128), uN (Wd.lo 0#128), uN (Wd.hi 0#128), uN (Wd.lo 0#128), iW 0, iW 0, bF]) rw_35 F H rfl rfl rfl rfl) (res_tmp F rfl) (An ?_ H.below))
  rfl
open Sx in
theorem gjmp2_ok (gx : St) (hr : Xj.right gx = true) (n : BitVec 128) (w0 : World) : Calls Tryz.prog 6 #[(L41 gx), .agg #[uH n, uL n]] w0 fun e w' => e = .returned (.tuple #[(L49 n gx), iI 0]) ∧ Below w0.heap.size w0 w' := by
 refine En Tryz.func6 Tryz.ntmps6 fun A F => ?_
 have H := Sx.Own.start w0
 refine Sp fun _ kk => Zb F (d_box F H rfl rfl (L42 gx) rfl) fun g1 A w F H => ?_
 refine Zb F (d_box F H rfl rfl [uH n, uL n] rfl) fun g2 A w F H => ?_
 refine Zb F (d_alloc H rfl L6 zero_35) fun g3 A w F H => ?_
 refine Av F fun A F => ?_
 refine Nl kk (Sx.seq fun K2 hK2 => Sp fun _ kk => Av F fun A F => ?_)
 refine Zw F (Dc if_7 F H (gcheck2_ok gx (hr) _)) fun A w F H => ?_
 refine Av F fun A F => ?_
 refine Nl kk (Sp fun _ kk => ?_)
 iterate 2 (refine Av F ?_; intro A F)
 refine Nl kk (condF F rfl (wp_skip (hK2 _ _ (Sx.seq fun K5 hK5 => ?_))))
 have F := F.tq [(2, pT g1 0), (3, pT g2 0), (4, pT g3 0)] rfl
 refine Dn F [some (pT g1 0), some (iI 2), some (.iface 132 (.agg #[])), some (L41 gx), some (.agg #[uH n, uL n]), some (L49 n gx), none, some (iI 0)] (fun L A w => Sx.Own w0 w [(true, g3, (cond (L 6) (L50 n gx) L6)), (true, g2, [uH n, uL n]), (true, g1, (L42 gx))] []) H.drew ?_ ?_
 ·refine ⟨?_, ?_, ?_, ?_, ?_, ?_, ?_, ?_, trivial⟩
  ·exact Sa
  ·exact SV (fun _ _ _ F H => Ld 2 one_3 F H)
  ·intro L A w up hun hd F H
   have f6 : L 6 = false := up 6 2 rfl hun
   rw [f6] at H
   refine step_on rfl (Dc if_26 F H (gof2_c _)) ?_
   rintro xv w' ⟨hx, H⟩
   exact ⟨Cs hx, (by show Sx.Own _ _ _ _; rw [show Inv.add L 2 6 = false from f6]; exact H)⟩
  ·exact SV (fun _ _ _ F H => Lr 2 (L42 gx) rw_35 F H)
  ·exact SV (fun _ _ _ F H => Lr 1 [uH n, uL n] rw_26 F H)
  ·intro L A w up hun hd F H
   have f6 : L 6 = false := up 6 5 rfl hun
   rw [f6] at H
   refine step_on rfl (d_callI (vs := [(L41 gx), .agg #[uH n, uL n]]) (v := (L49 n gx)) im_195 F H rfl rfl rfl (gjump2_c 2 0#64 gx 0#128 0#128 0#128 0#32 0#32 false n (hr) _)) ?_
   rintro xv w' ⟨hx, H⟩
   exact ⟨Cs hx, (by show Sx.Own _ _ _ _; rw [show Inv.add L 5 6 = false from f6]; exact H)⟩
  ·intro L A w up hun hd F H
   have f6 : L 6 = false := hun
   rw [f6] at H
   refine step_on rfl (d_store (i := 0) (xs := (L50 n gx)) (us := (L50 n gx)) sz_35 F H rfl rfl rfl rfl rfl rfl rfl (Nat.le_of_ble_eq_true rfl) rfl) ?_
   intro xv w' H
   exact ⟨Cn, H⟩
  ·exact Sa
 ·intro L A w hL F H
  have t6 : L 6 = true := hL 6 rfl
  rw [t6] at H
  have F := F.tq [(4, pT g3 0), (5, iI 0)] rfl
  refine hK5 _ _ ?_
  refine Wr (ret2 F Tryz.results6 (res_row (i := 0) (xs := [iI 2, iU 0, iU ((Xo.it n.toNat gx).a.toNat), iU ((Xo.it n.toNat gx).b.toNat), iU ((Xo.it n.toNat gx).c.toNat), iU ((Xo.it n.toNat gx).d.toNat), uN (Wd.hi 0#128), uN (Wd.lo 0#128), uN (Wd.hi 0#128), uN (Wd.lo 0#128), uN (Wd.hi 0#128), uN (Wd.lo 0#128), iW 0, iW 0, bF]) rw_35 F H rfl rfl rfl rfl) (res_tmp F rfl) (An ?_ H.below))
  rfl
open Sx in
theorem gjmp3_ok (ps pi : BitVec 128) (hr : Af.odd pi = true) (n : BitVec 128) (w0 : World) : Calls Tryz.prog 6 #[(L43 ps pi), .agg #[uH n, uL n]] w0 fun e w' => e = .returned (.tuple #[(L51 ps pi n), iI 0]) ∧ Below w0.heap.size w0 w' := by
 refine En Tryz.func6 Tryz.ntmps6 fun A F => ?_
 have H := Sx.Own.start w0
 refine Sp fun _ kk => Zb F (d_box F H rfl rfl (L44 ps pi) rfl) fun g1 A w F H => ?_
 refine Zb F (d_box F H rfl rfl [uH n, uL n] rfl) fun g2 A w F H => ?_
 refine Zb F (d_alloc H rfl L6 zero_35) fun g3 A w F H => ?_
 refine Av F fun A F => ?_
 refine Nl kk (Sx.seq fun K2 hK2 => Sp fun _ kk => Av F fun A F => ?_)
 refine Zw F (Dc if_7 F H (gcheck3_ok ps pi (hr) _)) fun A w F H => ?_
 refine Av F fun A F => ?_
 refine Nl kk (Sp fun _ kk => ?_)
 iterate 2 (refine Av F ?_; intro A F)
 refine Nl kk (condF F rfl (wp_skip (hK2 _ _ (Sx.seq fun K5 hK5 => ?_))))
 have F := F.tq [(2, pT g1 0), (3, pT g2 0), (4, pT g3 0)] rfl
 refine Dn F [some (pT g1 0), some (iI 3), some (.iface 133 (.agg #[])), some (L43 ps pi), some (.agg #[uH n, uL n]), some (L51 ps pi n), none, some (iI 0)] (fun L A w => Sx.Own w0 w [(true, g3, (cond (L 6) (L52 ps pi n) L6)), (true, g2, [uH n, uL n]), (true, g1, (L44 ps pi))] []) H.drew ?_ ?_
 ·refine ⟨?_, ?_, ?_, ?_, ?_, ?_, ?_, ?_, trivial⟩
  ·exact Sa
  ·exact SV (fun _ _ _ F H => Ld 2 one_3 F H)
  ·intro L A w up hun hd F H
   have f6 : L 6 = false := up 6 2 rfl hun
   rw [f6] at H
   refine step_on rfl (Dc if_26 F H (gof3_c _)) ?_
   rintro xv w' ⟨hx, H⟩
   exact ⟨Cs hx, (by show Sx.Own _ _ _ _; rw [show Inv.add L 2 6 = false from f6]; exact H)⟩
  ·exact SV (fun _ _ _ F H => Lr 2 (L44 ps pi) rw_35 F H)
  ·exact SV (fun _ _ _ F H => Lr 1 [uH n, uL n] rw_26 F H)
  ·intro L A w up hun hd F H
   have f6 : L 6 = false := up 6 5 rfl hun
   rw [f6] at H
   refine step_on rfl (d_callI (vs := [(L43 ps pi), .agg #[uH n, uL n]]) (v := (L51 ps pi n)) im_242 F H rfl rfl rfl (gjump3_c 3 0#64 Xo.zero ps pi 0#128 0#32 0#32 false n (hr) _)) ?_
   rintro xv w' ⟨hx, H⟩
   exact ⟨Cs hx, (by show Sx.Own _ _ _ _; rw [show Inv.add L 5 6 = false from f6]; exact H)⟩
  ·intro L A w up hun hd F H
   have f6 : L 6 = false := hun
   rw [f6] at H
   refine step_on rfl (d_store (i := 0) (xs := (L52 ps pi n)) (us := (L52 ps pi n)) sz_35 F H rfl rfl rfl rfl rfl rfl rfl (Nat.le_of_ble_eq_true rfl) rfl) ?_
   intro xv w' H
   exact ⟨Cn, H⟩
  ·exact Sa
 ·intro L A w hL F H
  have t6 : L 6 = true := hL 6 rfl
  rw [t6] at H
  have F := F.tq [(4, pT g3 0), (5, iI 0)] rfl
  refine hK5 _ _ ?_
  refine Wr (ret2 F Tryz.results6 (res_row (i := 0) (xs := [iI 3, iU 0, iU 0, iU 0, iU 0, iU 0, uH ((Pc.jump ⟨ps, pi⟩ n).s), uL ((Pc.jump ⟨ps, pi⟩ n).s), uH pi, uL pi, uN (Wd.hi 0#128), uN (Wd.lo 0#128), iW 0, iW 0, bF]) rw_35 F H rfl rfl rfl rfl) (res_tmp F rfl) (An ?_ H.below))
  rfl
open Sx in
theorem gjmp4_ok (hc : BitVec 128) (k0 k1 : BitVec 32) (hb : Bool) (n : BitVec 128) (w0 : World) : Calls Tryz.prog 6 #[(L45 hc k0 k1 hb), .agg #[uH n, uL n]] w0 fun e w' => e = .returned (.tuple #[(L53 hc k0 k1 hb n), iI 0]) ∧ Below w0.heap.size w0 w' := by
 refine En Tryz.func6 Tryz.ntmps6 fun A F => ?_
 have H := Sx.Own.start w0
 refine Sp fun _ kk => Zb F (d_box F H rfl rfl (L46 hc k0 k1 hb) rfl) fun g1 A w F H => ?_
 refine Zb F (d_box F H rfl rfl [uH n, uL n] rfl) fun g2 A w F H => ?_
 refine Zb F (d_alloc H rfl L6 zero_35) fun g3 A w F H => ?_
 refine Av F fun A F => ?_
 refine Nl kk (Sx.seq fun K2 hK2 => Sp fun _ kk => Av F fun A F => ?_)
 refine Zw F (Dc if_7 F H (gcheck4_ok hc k0 k1 hb _)) fun A w F H => ?_
 refine Av F fun A F => ?_
 refine Nl kk (Sp fun _ kk => ?_)
 iterate 2 (refine Av F ?_; intro A F)
 refine Nl kk (condF F rfl (wp_skip (hK2 _ _ (Sx.seq fun K5 hK5 => ?_))))
 have F := F.tq [(2, pT g1 0), (3, pT g2 0), (4, pT g3 0)] rfl
 refine Dn F [some (pT g1 0), some (iI 4), some (.iface 134 (.agg #[])), some (L45 hc k0 k1 hb), some (.agg #[uH n, uL n]), some (L53 hc k0 k1 hb n), none, some (iI 0)] (fun L A w => Sx.Own w0 w [(true, g3, (cond (L 6) (L54 hc k0 k1 hb n) L6)), (true, g2, [uH n, uL n]), (true, g1, (L46 hc k0 k1 hb))] []) H.drew ?_ ?_
 ·refine ⟨?_, ?_, ?_, ?_, ?_, ?_, ?_, ?_, trivial⟩
  ·exact Sa
  ·exact SV (fun _ _ _ F H => Ld 2 one_3 F H)
  ·intro L A w up hun hd F H
   have f6 : L 6 = false := up 6 2 rfl hun
   rw [f6] at H
   refine step_on rfl (Dc if_26 F H (gof4_c _)) ?_
   rintro xv w' ⟨hx, H⟩
   exact ⟨Cs hx, (by show Sx.Own _ _ _ _; rw [show Inv.add L 2 6 = false from f6]; exact H)⟩
  ·exact SV (fun _ _ _ F H => Lr 2 (L46 hc k0 k1 hb) rw_35 F H)
  ·exact SV (fun _ _ _ F H => Lr 1 [uH n, uL n] rw_26 F H)
  ·intro L A w up hun hd F H
   have f6 : L 6 = false := up 6 5 rfl hun
   rw [f6] at H
   refine step_on rfl (d_callI (vs := [(L45 hc k0 k1 hb), .agg #[uH n, uL n]]) (v := (L53 hc k0 k1 hb n)) im_260 F H rfl rfl rfl (gjump4_c 4 0#64 Xo.zero 0#128 0#128 hc k0 k1 hb n _)) ?_
   rintro xv w' ⟨hx, H⟩
   exact ⟨Cs hx, (by show Sx.Own _ _ _ _; rw [show Inv.add L 5 6 = false from f6]; exact H)⟩
  ·intro L A w up hun hd F H
   have f6 : L 6 = false := hun
   rw [f6] at H
   refine step_on rfl (d_store (i := 0) (xs := (L54 hc k0 k1 hb n)) (us := (L54 hc k0 k1 hb n)) sz_35 F H rfl rfl rfl rfl rfl rfl rfl (Nat.le_of_ble_eq_true rfl) rfl) ?_
   intro xv w' H
   exact ⟨Cn, H⟩
  ·exact Sa
 ·intro L A w hL F H
  have t6 : L 6 = true := hL 6 rfl
  rw [t6] at H
  have F := F.tq [(4, pT g3 0), (5, iI 0)] rfl
  refine hK5 _ _ ?_
  refine Wr (ret2 F Tryz.results6 (res_row (i := 0) (xs := [iI 4, iU 0, iU 0, iU 0, iU 0, iU 0, uN (Wd.hi 0#128), uN (Wd.lo 0#128), uN (Wd.hi 0#128), uN (Wd.lo 0#128), uH ((Hf.jump ⟨hc, k0, k1, hb⟩ n).c), uL ((Hf.jump ⟨hc, k0, k1, hb⟩ n).c), iW (((Hf.jump ⟨hc, k0, k1, hb⟩ n).k0).toNat), iW (((Hf.jump ⟨hc, k0, k1, hb⟩ n).k1).toNat), .bool ((Hf.jump ⟨hc, k0, k1, hb⟩ n).b)]) rw_35 F H rfl rfl rfl rfl) (res_tmp F rfl) (An ?_ H.below))
  rfl
abbrev L66 : Value := .agg #[uN (Wd.hi 9223372036854775808#128), uN (Wd.lo 9223372036854775808#128)]
open Sx in
theorem glimit1_c  (w0 : World) : Calls Tryz.prog 17 #[iI 1] w0 fun e w' => e = .returned (L66) ∧ Below w0.heap.size w0 w' := by
 refine En Tryz.func17 Tryz.ntmps17 fun A F => ?_
 have H := Sx.Own.start w0
 refine Sp fun _ kk => Zb F (d_alloc H rfl L1 zero_26) fun g1 A w F H => ?_
 refine Nl kk (Sp fun _ kk => Av F fun A F => ?_)
 refine Zw F (Dc if_26 F H (gof1_c _)) fun A w F H => ?_
 refine Av F fun A F => ?_
 refine Nl kk (Sx.seq fun K3 hK3 => Sp fun _ kk => Av F fun A F => ?_)
 refine Zn bF F fun A F => ?_
 refine Nl kk (condF F rfl (wp_skip (hK3 _ _ (Sp fun _ kk => Zw F (d_call (vs := [iU 1]) (v := L17) if_15 F H rfl rfl (Calls.val (wofV_c 1#64 _) (by kernel_rfl) (by kernel_rfl))) fun A w F H => ?_))))
 refine Av F fun A F => ?_
 refine Zw F (d_callI (vs := []) (v := iI 63) im_182 F H rfl rfl rfl (gbits1_c _)) fun A w F H => ?_
 refine Zw F (Dc if_42 F H (wleftN_c 1#128 63 (by omega) _)) fun A w F H => ?_
 refine Zs 0 [uH (1#128 <<< 63), uL (1#128 <<< 63)] sz_26 F H fun A w F H => ?_
 refine Nl kk ?_
 refine Wr (ret1 F Tryz.results17 (res_row (i := 0) (xs := [uH (1#128 <<< 63), uL (1#128 <<< 63)]) rw_26 F H rfl rfl rfl rfl) (An ?_ H.below))
 rfl
abbrev L67 : Value := .agg #[uN (Wd.hi 170141183460469231731687303715884105728#128), uN (Wd.lo 170141183460469231731687303715884105728#128)]
abbrev L68 : List Value := [uH (1#128 <<< 127), uL (1#128 <<< 127)]
open Sx in
theorem glimit2_c  (w0 : World) : Calls Tryz.prog 17 #[iI 2] w0 fun e w' => e = .returned (L67) ∧ Below w0.heap.size w0 w' := by
 refine En Tryz.func17 Tryz.ntmps17 fun A F => ?_
 have H := Sx.Own.start w0
 refine Sp fun _ kk => Zb F (d_alloc H rfl L1 zero_26) fun g1 A w F H => ?_
 refine Nl kk (Sp fun _ kk => Av F fun A F => ?_)
 refine Zw F (Dc if_26 F H (gof2_c _)) fun A w F H => ?_
 refine Av F fun A F => ?_
 refine Nl kk (Sx.seq fun K3 hK3 => Sp fun _ kk => Av F fun A F => ?_)
 refine Zn bF F fun A F => ?_
 refine Nl kk (condF F rfl (wp_skip (hK3 _ _ (Sp fun _ kk => Zw F (d_call (vs := [iU 1]) (v := L17) if_15 F H rfl rfl (Calls.val (wofV_c 1#64 _) (by kernel_rfl) (by kernel_rfl))) fun A w F H => ?_))))
 refine Av F fun A F => ?_
 refine Zw F (d_callI (vs := []) (v := iI 127) im_194 F H rfl rfl rfl (gbits2_c _)) fun A w F H => ?_
 refine Zw F (Dc if_42 F H (wleftN_c 1#128 127 (by omega) _)) fun A w F H => ?_
 refine Zs 0 L68 sz_26 F H fun A w F H => ?_
 refine Nl kk ?_
 refine Wr (ret1 F Tryz.results17 (res_row (i := 0) (xs := [uH (1#128 <<< 127), uL (1#128 <<< 127)]) rw_26 F H rfl rfl rfl rfl) (An ?_ H.below))
 rfl
open Sx in
theorem glimit3_c  (w0 : World) : Calls Tryz.prog 17 #[iI 3] w0 fun e w' => e = .returned (L67) ∧ Below w0.heap.size w0 w' := by
 refine En Tryz.func17 Tryz.ntmps17 fun A F => ?_
 have H := Sx.Own.start w0
 refine Sp fun _ kk => Zb F (d_alloc H rfl L1 zero_26) fun g1 A w F H => ?_
 refine Nl kk (Sp fun _ kk => Av F fun A F => ?_)
 refine Zw F (Dc if_26 F H (gof3_c _)) fun A w F H => ?_
 refine Av F fun A F => ?_
 refine Nl kk (Sx.seq fun K3 hK3 => Sp fun _ kk => Av F fun A F => ?_)
 refine Zn bF F fun A F => ?_
 refine Nl kk (condF F rfl (wp_skip (hK3 _ _ (Sp fun _ kk => Zw F (d_call (vs := [iU 1]) (v := L17) if_15 F H rfl rfl (Calls.val (wofV_c 1#64 _) (by kernel_rfl) (by kernel_rfl))) fun A w F H => ?_))))
 refine Av F fun A F => ?_
 refine Zw F (d_callI (vs := []) (v := iI 127) im_241 F H rfl rfl rfl (gbits3_c _)) fun A w F H => ?_
 refine Zw F (Dc if_42 F H (wleftN_c 1#128 127 (by omega) _)) fun A w F H => ?_
 refine Zs 0 L68 sz_26 F H fun A w F H => ?_
 refine Nl kk ?_
 refine Wr (ret1 F Tryz.results17 (res_row (i := 0) (xs := [uH (1#128 <<< 127), uL (1#128 <<< 127)]) rw_26 F H rfl rfl rfl rfl) (An ?_ H.below))
 rfl
open Sx in
theorem glimit4_c  (w0 : World) : Calls Tryz.prog 17 #[iI 4] w0 fun e w' => e = .returned (L67) ∧ Below w0.heap.size w0 w' := by
 refine En Tryz.func17 Tryz.ntmps17 fun A F => ?_
 have H := Sx.Own.start w0
 refine Sp fun _ kk => Zb F (d_alloc H rfl L1 zero_26) fun g1 A w F H => ?_
 refine Nl kk (Sp fun _ kk => Av F fun A F => ?_)
 refine Zw F (Dc if_26 F H (gof4_c _)) fun A w F H => ?_
 refine Av F fun A F => ?_
 refine Nl kk (Sx.seq fun K3 hK3 => Sp fun _ kk => Av F fun A F => ?_)
 refine Zn bF F fun A F => ?_
 refine Nl kk (condF F rfl (wp_skip (hK3 _ _ (Sp fun _ kk => Zw F (d_call (vs := [iU 1]) (v := L17) if_15 F H rfl rfl (Calls.val (wofV_c 1#64 _) (by kernel_rfl) (by kernel_rfl))) fun A w F H => ?_))))
 refine Av F fun A F => ?_
 refine Zw F (d_callI (vs := []) (v := iI 127) im_259 F H rfl rfl rfl (gbits4_c _)) fun A w F H => ?_
 refine Zw F (Dc if_42 F H (wleftN_c 1#128 127 (by omega) _)) fun A w F H => ?_
 refine Zs 0 L68 sz_26 F H fun A w F H => ?_
 refine Nl kk ?_
 refine Wr (ret1 F Tryz.results17 (res_row (i := 0) (xs := [uH (1#128 <<< 127), uL (1#128 <<< 127)]) rw_26 F H rfl rfl rfl rfl) (An ?_ H.below))
 rfl
section
namespace Bd
def mk1 (m : BitVec 64) : Gs := ⟨1, m, Xo.zero, 0#128, 0#128, 0#128, 0#32, 0#32, false⟩
def mk2 (x : St) : Gs := ⟨2, 0#64, x, 0#128, 0#128, 0#128, 0#32, 0#32, false⟩
def mk3 (s i : BitVec 128) : Gs := ⟨3, 0#64, Xo.zero, s, i, 0#128, 0#32, 0#32, false⟩
def mk4 (h : Hf.St) : Gs := ⟨4, 0#64, Xo.zero, 0#128, 0#128, h.c, h.k0, h.k1, h.b⟩
structure Gp where
  word : Gs → BitVec 64
  step : Gs → Gs
def g1 : Gp := ⟨fun u => Mx.word u.m, fun u => mk1 (Mx.step u.m)⟩
def g2 : Gp := ⟨fun u => Xo.word u.x, fun u => mk2 (Xo.step u.x)⟩
def g3 : Gp := ⟨fun u => Pc.word u.s, fun u => mk3 (Pc.step ⟨u.s, u.i⟩).s u.i⟩
def g4 : Gp := ⟨fun u => Hf.word ⟨u.c, u.k0, u.k1, u.b⟩, fun u => mk4 (Hf.step ⟨u.c, u.k0, u.k1, u.b⟩)⟩
namespace Gp
def it (g : Gp) : Nat → Gs → Gs
  | 0, s => s
  | n + 1, s => g.step (g.it n s)
def ws (g : Gp) : Nat → Gs → List (BitVec 64)
  | 0, _ => []
  | n + 1, s => g.ws n s ++ [g.word (g.it n s)]
variable (g : Gp)
theorem it_add (n m : Nat) (s : Gs) : g.it (n + m) s = g.it m (g.it n s) := by
  induction m with
  | zero => rfl
  | succ m ih => show g.step (g.it (n + m) s) = g.step (g.it m (g.it n s)); rw [ih]
theorem ws_length (n : Nat) (s : Gs) : (g.ws n s).length = n := by
  induction n with
  | zero => rfl
  | succ n ih => show (g.ws n s ++ [g.word (g.it n s)]).length = n + 1; simp [ih]
theorem ws_at (n : Nat) (s : Gs) (i : Nat) (hi : i < n) : (g.ws n s)[i]? = some (g.word (g.it i s)) := by
  induction n with
  | zero => omega
  | succ n ih =>
    show (g.ws n s ++ [g.word (g.it n s)])[i]? = _
    by_cases h : i < n
    · rw [List.getElem?_append_left (by rw [ws_length]; exact h)]; exact ih h
    · obtain rfl : i = n := by omega
      rw [List.getElem?_append_right (by rw [ws_length]; omega), ws_length]; simp
theorem u64s_ws (n : Nat) (s : Gs) : u64s (g.ws (n + 1) s) = u64s (g.ws n s) ++ [.int .u64 (g.word (g.it n s)).toNat] := u64s_snoc _ _
end Gp
theorem rval {P : Program} {f : FuncId} {args : Array Value} {mk mk' : Value → Value} {w : World} {E : TypeId} {z m : Nat} {cs : List Value} (h : Calls P f args w fun e w' => ∃ v, e = .returned (mk v) ∧ w'.ownsRow w.heap.size E z v m cs ∧ Below w.heap.size w w') (hv : ∀ v, mk v = mk' v) : Calls P f args w fun e w' => ∃ v, e = .returned (mk' v) ∧ w'.ownsRow w.heap.size E z v m cs ∧ Below w.heap.size w w' :=
  h.mono fun _ _ ⟨v, he, hr, hb⟩ => ⟨v, by rw [he, hv], hr, hb⟩
end Bd
end
open Sx in
theorem gwords1_c (gm : BitVec 64) (n : Nat) (hn : n ≤ 256) (w0 : World) : Calls Tryz.prog 55 #[(L38 gm), iI n] w0 fun e w' => ∃ v, e = .returned (.tuple #[v, (Bd.g1.it n (Bd.mk1 gm)).val, iI 0]) ∧ w'.ownsRow w0.heap.size 22 1 v n (u64s (Bd.g1.ws n (Bd.mk1 gm))) ∧ Below w0.heap.size w0 w' := by
 refine En Tryz.func55 Tryz.ntmps55 fun A F => ?_
 have H := Sx.Own.start w0
 refine Sp fun _ kk => Zb F (d_box F H rfl rfl (L40 gm) rfl) fun g1 A w F H => ?_
 refine Av F fun A F => ?_
 refine Zb F (d_alloc H rfl L6 zero_35) fun g2 A w F H => ?_
 refine Av F fun A F => ?_
 refine Nl kk (Sx.seq fun K2 hK2 => Sp fun _ kk => Av F fun A F => ?_)
 refine Zw F (Dc if_7 F H (gcheck1_ok gm _)) fun A w F H => ?_
 refine Av F fun A F => ?_
 refine Nl kk (Sp fun _ kk => ?_)
 iterate 2 (refine Av F ?_; intro A F)
 refine Nl kk (condF F rfl (wp_skip (hK2 _ _ (Sx.seq fun K5 hK5 => Sp fun _ kk => Av F fun A F => ?_))))
 refine Zv F (Bn bF F rfl rfl rfl (i_lt (decide_eq_false (by omega)))) fun A F => ?_
 iterate 2 (refine Av F ?_; intro A F)
 refine Zv F (Bn bF F rfl rfl rfl (i_gt (decide_eq_false (by omega)))) fun A F => ?_
 refine Av F fun A F => ?_
 refine Nl kk (condF F rfl (wp_skip (hK5 _ _ (Sp fun _ kk => ?_))))
 iterate 2 (refine Av F ?_; intro A F)
 refine Zw F (Dc if_26 F H (gof1_c _)) fun A w F H => ?_
 refine Av F fun A F => ?_
 refine Nl kk (Sp fun _ kk => Av F fun A F => ?_)
 refine Nl kk (Sx.seq fun K9 hK9 => Sp fun _ kk => ?_)
 iterate 2 (refine Av F ?_; intro A F)
 refine Nl kk (wp_block ?_)
 have H := Sx.Own.nilR H 22 1
 refine loop (fun q A w => ∃ (j : Nat) (v : Value) (m' : BitVec 64), q = n - j ∧ j ≤ n ∧ Bd.g1.it j (Bd.mk1 gm) = Bd.mk1 (m') ∧ Fr 41 A [(2, pT g1 0), (4, nS), (5, pT g2 0), (6, iI 0), (8, .iface 131 (.agg #[])), (26, iI n), (9, v), (27, iI j)] ∧ Sx.Own w0 w [(true, g1, (L40 m')), (true, g2, L6)] [⟨true, v, 22, 1, j, (u64s (Bd.g1.ws j (Bd.mk1 gm)))⟩]) n ⟨0, nS, gm, rfl, Nat.zero_le _, rfl, F.to ⟨rfl, rfl, rfl, rfl, rfl, rfl, rfl, rfl, trivial⟩, H.to' [1, 0] [0] (by decide) (by decide) rfl rfl⟩ ?_
 rintro q A w ⟨j, v, m', rfl, hj, he, F, H⟩
 by_cases hlt : j < n
 ·skip
  refine Sp fun _ kk => Zv F (Bn bT F rfl rfl rfl (i_lt (decide_eq_true (by omega)))) fun A F => ?_
  refine Nl kk (Sx.seq fun K12 hK12 => condT F rfl (wp_skip (hK12 _ _ (Sx.seq fun K13 hK13 => wp_block (Sp fun _ kk => ?_)))))
  iterate 3 (refine Av F ?_; intro A F)
  refine Zw F (d_callI (vs := (L62 m')) (v := uN (Mx.word m')) im_189 F H rfl rfl rfl (gword1_c 1 m' Xo.zero 0#128 0#128 0#128 0#32 0#32 false _)) fun A w F H => ?_
  refine Zg (mk := fun g => sL g 0 1 1) F (d_lit (qs := #[(0, uN (Mx.word m'))]) (cs := #[uN (Mx.word m')]) (E := 22) F H rfl rfl (fun _ => by kernel_rfl)) fun g3 A w F H => ?_
  refine Zr (mk := fun v => v) F (d_append (i := 0) (j := 0) el_65 F H rfl rfl rfl rfl rfl rfl rfl rfl (by omega) (by decide)) fun v1 A w F H => ?_
  refine Av F fun A F => ?_
  refine Nl kk (Sx.plain ?_)
  iterate 2 (refine Av F ?_; intro A F)
  refine Zw F (d_callI (vs := (L62 m')) (v := (L55 m')) im_187 F H rfl rfl rfl (gstep1_c 1 m' Xo.zero 0#128 0#128 0#128 0#32 0#32 false _)) fun A w F H => ?_
  refine Zs 1 (L56 m') sz_35 F H fun A w F H => ?_
  refine Sx.nil (hK13 _ _ (Sx.plain ?_))
  refine Zv F (Bn (iI (j + 1 : Nat)) F rfl rfl rfl (i_addN rfl (in_i64 _ (by omega)))) fun A F => ?_
  refine Av F fun A F => ?_
  refine Sx.nil ?_
  try dsimp only [Exit.then]
  exact ⟨n - (j + 1), by omega, j + 1, v1, Mx.step m', rfl, by omega, by show Bd.g1.step (Bd.g1.it j (Bd.mk1 gm)) = _; rw [he]; rfl, F.to ⟨rfl, rfl, rfl, rfl, rfl, rfl, rfl, rfl, trivial⟩, by rw [Bd.Gp.u64s_ws, he]; exact H.to' [1, 2] [0] (by decide) (by decide) rfl rfl⟩
 ·obtain rfl : j = n := by omega
  refine Sp fun _ kk => Zv F (Bn bF F rfl rfl rfl (i_lt (by simp))) fun A F => ?_
  refine Nl kk (Sx.seq fun K16 hK16 => condF F rfl (wp_exit ?_))
  try dsimp only [Exit.then, Exit.jump, Exit.noGoto]
  refine exit_here (hK9 _ _ (Sx.seq fun K17 hK17 => ?_))
  have F := F.tq [(2, pT g1 0), (5, pT g2 0), (9, v)] rfl
  refine Dn F [some (v), some (L38 m'), some (v), none, some (iI 0)] (fun L A w => Sx.Own w0 w [(true, g1, (L40 m')), (true, g2, (cond (L 3) (L40 m') L6))] [⟨true, v, 22, 1, j, (u64s (Bd.g1.ws j (Bd.mk1 gm)))⟩]) H.drew ?_ ?_
  ·refine ⟨?_, ?_, ?_, ?_, ?_, trivial⟩
   ·exact Sa
   ·exact SV (fun _ _ _ F H => Lr 0 (L40 m') rw_35 F H)
   ·exact Sa
   ·intro L A w up hun hd F H
    have f3 : L 3 = false := hun
    rw [f3] at H
    refine step_on rfl (d_store (i := 1) (xs := (L40 m')) (us := (L40 m')) sz_35 F H rfl rfl rfl rfl rfl rfl rfl (Nat.le_of_ble_eq_true rfl) rfl) ?_
    intro xv w' H
    exact ⟨Cn, H⟩
   ·exact Sa
  ·intro L A w hL F H
   have t3 : L 3 = true := hL 3 rfl
   rw [t3] at H
   have F := F.tq [(5, pT g2 0), (4, v), (6, iI 0)] rfl
   refine hK17 _ _ (Wr (ret3 F Tryz.results55 (res_tmp F rfl) (res_row (i := 1) (xs := [iI 1, uN m', iU 0, iU 0, iU 0, iU 0, uN (Wd.hi 0#128), uN (Wd.lo 0#128), uN (Wd.hi 0#128), uN (Wd.lo 0#128), uN (Wd.hi 0#128), uN (Wd.lo 0#128), iW 0, iW 0, bF]) rw_35 F H rfl rfl rfl rfl) (res_tmp F rfl) ?_))
   exact ⟨_, by rw [he]; rfl, H.row 0 _ rfl rfl, H.below⟩
open Sx in
theorem gwords2_c (gx : St) (hr : Xj.right gx = true) (n : Nat) (hn : n ≤ 256) (w0 : World) : Calls Tryz.prog 55 #[(L41 gx), iI n] w0 fun e w' => ∃ v, e = .returned (.tuple #[v, (Bd.g2.it n (Bd.mk2 gx)).val, iI 0]) ∧ w'.ownsRow w0.heap.size 22 1 v n (u64s (Bd.g2.ws n (Bd.mk2 gx))) ∧ Below w0.heap.size w0 w' := by
 refine En Tryz.func55 Tryz.ntmps55 fun A F => ?_
 have H := Sx.Own.start w0
 refine Sp fun _ kk => Zb F (d_box F H rfl rfl (L42 gx) rfl) fun g1 A w F H => ?_
 refine Av F fun A F => ?_
 refine Zb F (d_alloc H rfl L6 zero_35) fun g2 A w F H => ?_
 refine Av F fun A F => ?_
 refine Nl kk (Sx.seq fun K2 hK2 => Sp fun _ kk => Av F fun A F => ?_)
 refine Zw F (Dc if_7 F H (gcheck2_ok gx (hr) _)) fun A w F H => ?_
 refine Av F fun A F => ?_
 refine Nl kk (Sp fun _ kk => ?_)
 iterate 2 (refine Av F ?_; intro A F)
 refine Nl kk (condF F rfl (wp_skip (hK2 _ _ (Sx.seq fun K5 hK5 => Sp fun _ kk => Av F fun A F => ?_))))
 refine Zv F (Bn bF F rfl rfl rfl (i_lt (decide_eq_false (by omega)))) fun A F => ?_
 iterate 2 (refine Av F ?_; intro A F)
 refine Zv F (Bn bF F rfl rfl rfl (i_gt (decide_eq_false (by omega)))) fun A F => ?_
 refine Av F fun A F => ?_
 refine Nl kk (condF F rfl (wp_skip (hK5 _ _ (Sp fun _ kk => ?_))))
 iterate 2 (refine Av F ?_; intro A F)
 refine Zw F (Dc if_26 F H (gof2_c _)) fun A w F H => ?_
 refine Av F fun A F => ?_
 refine Nl kk (Sp fun _ kk => Av F fun A F => ?_)
 refine Nl kk (Sx.seq fun K9 hK9 => Sp fun _ kk => ?_)
 iterate 2 (refine Av F ?_; intro A F)
 refine Nl kk (wp_block ?_)
 have H := Sx.Own.nilR H 22 1
 refine loop (fun q A w => ∃ (j : Nat) (v : Value) (x' : St), q = n - j ∧ j ≤ n ∧ Bd.g2.it j (Bd.mk2 gx) = Bd.mk2 x' ∧ Fr 41 A [(2, pT g1 0), (4, nS), (5, pT g2 0), (6, iI 0), (8, .iface 132 (.agg #[])), (26, iI n), (9, v), (27, iI j)] ∧ Sx.Own w0 w [(true, g1, (L42 x')), (true, g2, L6)] [⟨true, v, 22, 1, j, (u64s (Bd.g2.ws j (Bd.mk2 gx)))⟩]) n ⟨0, nS, gx, rfl, Nat.zero_le _, rfl, F.to ⟨rfl, rfl, rfl, rfl, rfl, rfl, rfl, rfl, trivial⟩, H.to' [1, 0] [0] (by decide) (by decide) rfl rfl⟩ ?_
 rintro q A w ⟨j, v, x', rfl, hj, he, F, H⟩
 by_cases hlt : j < n
 ·skip
  refine Sp fun _ kk => Zv F (Bn bT F rfl rfl rfl (i_lt (decide_eq_true (by omega)))) fun A F => ?_
  refine Nl kk (Sx.seq fun K12 hK12 => condT F rfl (wp_skip (hK12 _ _ (Sx.seq fun K13 hK13 => wp_block (Sp fun _ kk => ?_)))))
  iterate 3 (refine Av F ?_; intro A F)
  refine Zw F (d_callI (vs := (L63 x')) (v := uN (Xo.word x')) im_201 F H rfl rfl rfl (gword2_c 2 0#64 x' 0#128 0#128 0#128 0#32 0#32 false _)) fun A w F H => ?_
  refine Zg (mk := fun g => sL g 0 1 1) F (d_lit (qs := #[(0, uN (Xo.word x'))]) (cs := #[uN (Xo.word x')]) (E := 22) F H rfl rfl (fun _ => by kernel_rfl)) fun g3 A w F H => ?_
  refine Zr (mk := fun v => v) F (d_append (i := 0) (j := 0) el_65 F H rfl rfl rfl rfl rfl rfl rfl rfl (by omega) (by decide)) fun v1 A w F H => ?_
  refine Av F fun A F => ?_
  refine Nl kk (Sx.plain ?_)
  iterate 2 (refine Av F ?_; intro A F)
  refine Zw F (d_callI (vs := (L63 x')) (v := (L57 x')) im_199 F H rfl rfl rfl (gstep2_c 2 0#64 x' 0#128 0#128 0#128 0#32 0#32 false _)) fun A w F H => ?_
  refine Zs 1 (L58 x') sz_35 F H fun A w F H => ?_
  refine Sx.nil (hK13 _ _ (Sx.plain ?_))
  refine Zv F (Bn (iI (j + 1 : Nat)) F rfl rfl rfl (i_addN rfl (in_i64 _ (by omega)))) fun A F => ?_
  refine Av F fun A F => ?_
  refine Sx.nil ?_
  try dsimp only [Exit.then]
  exact ⟨n - (j + 1), by omega, j + 1, v1, Xo.step x', rfl, by omega, by show Bd.g2.step (Bd.g2.it j (Bd.mk2 gx)) = _; rw [he]; rfl, F.to ⟨rfl, rfl, rfl, rfl, rfl, rfl, rfl, rfl, trivial⟩, by rw [Bd.Gp.u64s_ws, he]; exact H.to' [1, 2] [0] (by decide) (by decide) rfl rfl⟩
 ·obtain rfl : j = n := by omega
  refine Sp fun _ kk => Zv F (Bn bF F rfl rfl rfl (i_lt (by simp))) fun A F => ?_
  refine Nl kk (Sx.seq fun K16 hK16 => condF F rfl (wp_exit ?_))
  try dsimp only [Exit.then, Exit.jump, Exit.noGoto]
  refine exit_here (hK9 _ _ (Sx.seq fun K17 hK17 => ?_))
  have F := F.tq [(2, pT g1 0), (5, pT g2 0), (9, v)] rfl
  refine Dn F [some (v), some (L41 x'), some (v), none, some (iI 0)] (fun L A w => Sx.Own w0 w [(true, g1, (L42 x')), (true, g2, (cond (L 3) (L42 x') L6))] [⟨true, v, 22, 1, j, (u64s (Bd.g2.ws j (Bd.mk2 gx)))⟩]) H.drew ?_ ?_
  ·refine ⟨?_, ?_, ?_, ?_, ?_, trivial⟩
   ·exact Sa
   ·exact SV (fun _ _ _ F H => Lr 0 (L42 x') rw_35 F H)
   ·exact Sa
   ·intro L A w up hun hd F H
    have f3 : L 3 = false := hun
    rw [f3] at H
    refine step_on rfl (d_store (i := 1) (xs := (L42 x')) (us := (L42 x')) sz_35 F H rfl rfl rfl rfl rfl rfl rfl (Nat.le_of_ble_eq_true rfl) rfl) ?_
    intro xv w' H
    exact ⟨Cn, H⟩
   ·exact Sa
  ·intro L A w hL F H
   have t3 : L 3 = true := hL 3 rfl
   rw [t3] at H
   have F := F.tq [(5, pT g2 0), (4, v), (6, iI 0)] rfl
   refine hK17 _ _ (Wr (ret3 F Tryz.results55 (res_tmp F rfl) (res_row (i := 1) (xs := [iI 2, iU 0, uN x'.a, uN x'.b, uN x'.c, uN x'.d, uN (Wd.hi 0#128), uN (Wd.lo 0#128), uN (Wd.hi 0#128), uN (Wd.lo 0#128), uN (Wd.hi 0#128), uN (Wd.lo 0#128), iW 0, iW 0, bF]) rw_35 F H rfl rfl rfl rfl) (res_tmp F rfl) ?_))
   exact ⟨_, by rw [he]; rfl, H.row 0 _ rfl rfl, H.below⟩
open Sx in
theorem gwords3_c (ps pi : BitVec 128) (hr : Af.odd pi = true) (n : Nat) (hn : n ≤ 256) (w0 : World) : Calls Tryz.prog 55 #[(L43 ps pi), iI n] w0 fun e w' => ∃ v, e = .returned (.tuple #[v, (Bd.g3.it n (Bd.mk3 ps pi)).val, iI 0]) ∧ w'.ownsRow w0.heap.size 22 1 v n (u64s (Bd.g3.ws n (Bd.mk3 ps pi))) ∧ Below w0.heap.size w0 w' := by
 refine En Tryz.func55 Tryz.ntmps55 fun A F => ?_
 have H := Sx.Own.start w0
 refine Sp fun _ kk => Zb F (d_box F H rfl rfl (L44 ps pi) rfl) fun g1 A w F H => ?_
 refine Av F fun A F => ?_
 refine Zb F (d_alloc H rfl L6 zero_35) fun g2 A w F H => ?_
 refine Av F fun A F => ?_
 refine Nl kk (Sx.seq fun K2 hK2 => Sp fun _ kk => Av F fun A F => ?_)
 refine Zw F (Dc if_7 F H (gcheck3_ok ps pi (hr) _)) fun A w F H => ?_
 refine Av F fun A F => ?_
 refine Nl kk (Sp fun _ kk => ?_)
 iterate 2 (refine Av F ?_; intro A F)
 refine Nl kk (condF F rfl (wp_skip (hK2 _ _ (Sx.seq fun K5 hK5 => Sp fun _ kk => Av F fun A F => ?_))))
 refine Zv F (Bn bF F rfl rfl rfl (i_lt (decide_eq_false (by omega)))) fun A F => ?_
 iterate 2 (refine Av F ?_; intro A F)
 refine Zv F (Bn bF F rfl rfl rfl (i_gt (decide_eq_false (by omega)))) fun A F => ?_
 refine Av F fun A F => ?_
 refine Nl kk (condF F rfl (wp_skip (hK5 _ _ (Sp fun _ kk => ?_))))
 iterate 2 (refine Av F ?_; intro A F)
 refine Zw F (Dc if_26 F H (gof3_c _)) fun A w F H => ?_
 refine Av F fun A F => ?_
 refine Nl kk (Sp fun _ kk => Av F fun A F => ?_)
 refine Nl kk (Sx.seq fun K9 hK9 => Sp fun _ kk => ?_)
 iterate 2 (refine Av F ?_; intro A F)
 refine Nl kk (wp_block ?_)
 have H := Sx.Own.nilR H 22 1
 refine loop (fun q A w => ∃ (j : Nat) (v : Value) (s' : BitVec 128), q = n - j ∧ j ≤ n ∧ Bd.g3.it j (Bd.mk3 ps pi) = Bd.mk3 s' pi ∧ Fr 41 A [(2, pT g1 0), (4, nS), (5, pT g2 0), (6, iI 0), (8, .iface 133 (.agg #[])), (26, iI n), (9, v), (27, iI j)] ∧ Sx.Own w0 w [(true, g1, (L44 s' pi)), (true, g2, L6)] [⟨true, v, 22, 1, j, (u64s (Bd.g3.ws j (Bd.mk3 ps pi)))⟩]) n ⟨0, nS, ps, rfl, Nat.zero_le _, rfl, F.to ⟨rfl, rfl, rfl, rfl, rfl, rfl, rfl, rfl, trivial⟩, H.to' [1, 0] [0] (by decide) (by decide) rfl rfl⟩ ?_
 rintro q A w ⟨j, v, s', rfl, hj, he, F, H⟩
 by_cases hlt : j < n
 ·skip
  refine Sp fun _ kk => Zv F (Bn bT F rfl rfl rfl (i_lt (decide_eq_true (by omega)))) fun A F => ?_
  refine Nl kk (Sx.seq fun K12 hK12 => condT F rfl (wp_skip (hK12 _ _ (Sx.seq fun K13 hK13 => wp_block (Sp fun _ kk => ?_)))))
  iterate 3 (refine Av F ?_; intro A F)
  refine Zw F (d_callI (vs := (L64 s' pi)) (v := uN (Pc.word s')) im_248 F H rfl rfl rfl (gword3_c 3 0#64 Xo.zero s' pi 0#128 0#32 0#32 false _)) fun A w F H => ?_
  refine Zg (mk := fun g => sL g 0 1 1) F (d_lit (qs := #[(0, uN (Pc.word s'))]) (cs := #[uN (Pc.word s')]) (E := 22) F H rfl rfl (fun _ => by kernel_rfl)) fun g3 A w F H => ?_
  refine Zr (mk := fun v => v) F (d_append (i := 0) (j := 0) el_65 F H rfl rfl rfl rfl rfl rfl rfl rfl (by omega) (by decide)) fun v1 A w F H => ?_
  refine Av F fun A F => ?_
  refine Nl kk (Sx.plain ?_)
  iterate 2 (refine Av F ?_; intro A F)
  refine Zw F (d_callI (vs := (L64 s' pi)) (v := (L59 s' pi)) im_246 F H rfl rfl rfl (gstep3_c 3 0#64 Xo.zero s' pi 0#128 0#32 0#32 false _)) fun A w F H => ?_
  refine Zs 1 (L60 s' pi) sz_35 F H fun A w F H => ?_
  refine Sx.nil (hK13 _ _ (Sx.plain ?_))
  refine Zv F (Bn (iI (j + 1 : Nat)) F rfl rfl rfl (i_addN rfl (in_i64 _ (by omega)))) fun A F => ?_
  refine Av F fun A F => ?_
  refine Sx.nil ?_
  try dsimp only [Exit.then]
  exact ⟨n - (j + 1), by omega, j + 1, v1, (Pc.step ⟨s', pi⟩).s, rfl, by omega, by show Bd.g3.step (Bd.g3.it j (Bd.mk3 ps pi)) = _; rw [he]; rfl, F.to ⟨rfl, rfl, rfl, rfl, rfl, rfl, rfl, rfl, trivial⟩, by rw [Bd.Gp.u64s_ws, he]; exact H.to' [1, 2] [0] (by decide) (by decide) rfl rfl⟩
 ·obtain rfl : j = n := by omega
  refine Sp fun _ kk => Zv F (Bn bF F rfl rfl rfl (i_lt (by simp))) fun A F => ?_
  refine Nl kk (Sx.seq fun K16 hK16 => condF F rfl (wp_exit ?_))
  try dsimp only [Exit.then, Exit.jump, Exit.noGoto]
  refine exit_here (hK9 _ _ (Sx.seq fun K17 hK17 => ?_))
  have F := F.tq [(2, pT g1 0), (5, pT g2 0), (9, v)] rfl
  refine Dn F [some (v), some (L43 s' pi), some (v), none, some (iI 0)] (fun L A w => Sx.Own w0 w [(true, g1, (L44 s' pi)), (true, g2, (cond (L 3) (L44 s' pi) L6))] [⟨true, v, 22, 1, j, (u64s (Bd.g3.ws j (Bd.mk3 ps pi)))⟩]) H.drew ?_ ?_
  ·refine ⟨?_, ?_, ?_, ?_, ?_, trivial⟩
   ·exact Sa
   ·exact SV (fun _ _ _ F H => Lr 0 (L44 s' pi) rw_35 F H)
   ·exact Sa
   ·intro L A w up hun hd F H
    have f3 : L 3 = false := hun
    rw [f3] at H
    refine step_on rfl (d_store (i := 1) (xs := (L44 s' pi)) (us := (L44 s' pi)) sz_35 F H rfl rfl rfl rfl rfl rfl rfl (Nat.le_of_ble_eq_true rfl) rfl) ?_
    intro xv w' H
    exact ⟨Cn, H⟩
   ·exact Sa
  ·intro L A w hL F H
   have t3 : L 3 = true := hL 3 rfl
   rw [t3] at H
   have F := F.tq [(5, pT g2 0), (4, v), (6, iI 0)] rfl
   refine hK17 _ _ (Wr (ret3 F Tryz.results55 (res_tmp F rfl) (res_row (i := 1) (xs := [iI 3, iU 0, iU 0, iU 0, iU 0, iU 0, uH s', uL s', uH pi, uL pi, uN (Wd.hi 0#128), uN (Wd.lo 0#128), iW 0, iW 0, bF]) rw_35 F H rfl rfl rfl rfl) (res_tmp F rfl) ?_))
   exact ⟨_, by rw [he]; rfl, H.row 0 _ rfl rfl, H.below⟩
open Sx in
theorem gwords4_c (h : Hf.St) (n : Nat) (hn : n ≤ 256) (w0 : World) : Calls Tryz.prog 55 #[.agg #[iI 4, iU 0, iU 0, iU 0, iU 0, iU 0, uN (Wd.hi 0#128), uN (Wd.lo 0#128), uN (Wd.hi 0#128), uN (Wd.lo 0#128), uH ((h).c), uL ((h).c), iW (((h).k0).toNat), iW (((h).k1).toNat), .bool ((h).b)], iI n] w0 fun e w' => ∃ v, e = .returned (.tuple #[v, (Bd.g4.it n (Bd.mk4 h)).val, iI 0]) ∧ w'.ownsRow w0.heap.size 22 1 v n (u64s (Bd.g4.ws n (Bd.mk4 h))) ∧ Below w0.heap.size w0 w' := by
 refine En Tryz.func55 Tryz.ntmps55 fun A F => ?_
 have H := Sx.Own.start w0
 refine Sp fun _ kk => Zb F (d_box F H rfl rfl [iI 4, iU 0, iU 0, iU 0, iU 0, iU 0, uN (Wd.hi 0#128), uN (Wd.lo 0#128), uN (Wd.hi 0#128), uN (Wd.lo 0#128), uH ((h).c), uL ((h).c), iW (((h).k0).toNat), iW (((h).k1).toNat), .bool ((h).b)] rfl) fun g1 A w F H => ?_
 refine Av F fun A F => ?_
 refine Zb F (d_alloc H rfl L6 zero_35) fun g2 A w F H => ?_
 refine Av F fun A F => ?_
 refine Nl kk (Sx.seq fun K2 hK2 => Sp fun _ kk => Av F fun A F => ?_)
 refine Zw F (Dc if_7 F H (gcheck4_ok ((h).c) ((h).k0) ((h).k1) ((h).b) _)) fun A w F H => ?_
 refine Av F fun A F => ?_
 refine Nl kk (Sp fun _ kk => ?_)
 iterate 2 (refine Av F ?_; intro A F)
 refine Nl kk (condF F rfl (wp_skip (hK2 _ _ (Sx.seq fun K5 hK5 => Sp fun _ kk => Av F fun A F => ?_))))
 refine Zv F (Bn bF F rfl rfl rfl (i_lt (decide_eq_false (by omega)))) fun A F => ?_
 iterate 2 (refine Av F ?_; intro A F)
 refine Zv F (Bn bF F rfl rfl rfl (i_gt (decide_eq_false (by omega)))) fun A F => ?_
 refine Av F fun A F => ?_
 refine Nl kk (condF F rfl (wp_skip (hK5 _ _ (Sp fun _ kk => ?_))))
 iterate 2 (refine Av F ?_; intro A F)
 refine Zw F (Dc if_26 F H (gof4_c _)) fun A w F H => ?_
 refine Av F fun A F => ?_
 refine Nl kk (Sp fun _ kk => Av F fun A F => ?_)
 refine Nl kk (Sx.seq fun K9 hK9 => Sp fun _ kk => ?_)
 iterate 2 (refine Av F ?_; intro A F)
 refine Nl kk (wp_block ?_)
 have H := Sx.Own.nilR H 22 1
 refine loop (fun q A w => ∃ (j : Nat) (v : Value) (h' : Hf.St), q = n - j ∧ j ≤ n ∧ Bd.g4.it j (Bd.mk4 h) = Bd.mk4 h' ∧ Fr 41 A [(2, pT g1 0), (4, nS), (5, pT g2 0), (6, iI 0), (8, .iface 134 (.agg #[])), (26, iI n), (9, v), (27, iI j)] ∧ Sx.Own w0 w [(true, g1, [iI 4, iU 0, iU 0, iU 0, iU 0, iU 0, uN (Wd.hi 0#128), uN (Wd.lo 0#128), uN (Wd.hi 0#128), uN (Wd.lo 0#128), uH ((h').c), uL ((h').c), iW (((h').k0).toNat), iW (((h').k1).toNat), .bool ((h').b)]), (true, g2, L6)] [⟨true, v, 22, 1, j, (u64s (Bd.g4.ws j (Bd.mk4 h)))⟩]) n ⟨0, nS, h, rfl, Nat.zero_le _, rfl, F.to ⟨rfl, rfl, rfl, rfl, rfl, rfl, rfl, rfl, trivial⟩, H.to' [1, 0] [0] (by decide) (by decide) rfl rfl⟩ ?_
 rintro q A w ⟨j, v, h', rfl, hj, he, F, H⟩
 by_cases hlt : j < n
 ·skip
  refine Sp fun _ kk => Zv F (Bn bT F rfl rfl rfl (i_lt (decide_eq_true (by omega)))) fun A F => ?_
  refine Nl kk (Sx.seq fun K12 hK12 => condT F rfl (wp_skip (hK12 _ _ (Sx.seq fun K13 hK13 => wp_block (Sp fun _ kk => ?_)))))
  iterate 3 (refine Av F ?_; intro A F)
  refine Zw F (d_callI (vs := [.agg #[iI 4, iU 0, iU 0, iU 0, iU 0, iU 0, uN (Wd.hi 0#128), uN (Wd.lo 0#128), uN (Wd.hi 0#128), uN (Wd.lo 0#128), uH ((h').c), uL ((h').c), iW (((h').k0).toNat), iW (((h').k1).toNat), .bool ((h').b)]]) (v := uN (Hf.word ⟨((h').c), ((h').k0), ((h').k1), ((h').b)⟩)) im_266 F H rfl rfl rfl (gword4_c 4 0#64 Xo.zero 0#128 0#128 ((h').c) ((h').k0) ((h').k1) ((h').b) _)) fun A w F H => ?_
  refine Zg (mk := fun g => sL g 0 1 1) F (d_lit (qs := #[(0, uN (Hf.word ⟨((h').c), ((h').k0), ((h').k1), ((h').b)⟩))]) (cs := #[uN (Hf.word ⟨((h').c), ((h').k0), ((h').k1), ((h').b)⟩)]) (E := 22) F H rfl rfl (fun _ => by kernel_rfl)) fun g3 A w F H => ?_
  refine Zr (mk := fun v => v) F (d_append (i := 0) (j := 0) el_65 F H rfl rfl rfl rfl rfl rfl rfl rfl (by omega) (by decide)) fun v1 A w F H => ?_
  refine Av F fun A F => ?_
  refine Nl kk (Sx.plain ?_)
  iterate 2 (refine Av F ?_; intro A F)
  refine Zw F (d_callI (vs := [.agg #[iI 4, iU 0, iU 0, iU 0, iU 0, iU 0, uN (Wd.hi 0#128), uN (Wd.lo 0#128), uN (Wd.hi 0#128), uN (Wd.lo 0#128), uH ((h').c), uL ((h').c), iW (((h').k0).toNat), iW (((h').k1).toNat), .bool ((h').b)]]) (v := .agg #[iI 4, iU 0, iU 0, iU 0, iU 0, iU 0, uN (Wd.hi 0#128), uN (Wd.lo 0#128), uN (Wd.hi 0#128), uN (Wd.lo 0#128), uH ((Hf.step ⟨((h').c), ((h').k0), ((h').k1), ((h').b)⟩).c), uL ((Hf.step ⟨((h').c), ((h').k0), ((h').k1), ((h').b)⟩).c), iW (((Hf.step ⟨((h').c), ((h').k0), ((h').k1), ((h').b)⟩).k0).toNat), iW (((Hf.step ⟨((h').c), ((h').k0), ((h').k1), ((h').b)⟩).k1).toNat), .bool ((Hf.step ⟨((h').c), ((h').k0), ((h').k1), ((h').b)⟩).b)]) im_264 F H rfl rfl rfl (gstep4_c 4 0#64 Xo.zero 0#128 0#128 ((h').c) ((h').k0) ((h').k1) ((h').b) _)) fun A w F H => ?_
  refine Zs 1 [iI 4, iU 0, iU 0, iU 0, iU 0, iU 0, uN (Wd.hi 0#128), uN (Wd.lo 0#128), uN (Wd.hi 0#128), uN (Wd.lo 0#128), uH ((Hf.step ⟨((h').c), ((h').k0), ((h').k1), ((h').b)⟩).c), uL ((Hf.step ⟨((h').c), ((h').k0), ((h').k1), ((h').b)⟩).c), iW (((Hf.step ⟨((h').c), ((h').k0), ((h').k1), ((h').b)⟩).k0).toNat), iW (((Hf.step ⟨((h').c), ((h').k0), ((h').k1), ((h').b)⟩).k1).toNat), .bool ((Hf.step ⟨((h').c), ((h').k0), ((h').k1), ((h').b)⟩).b)] sz_35 F H fun A w F H => ?_
  refine Sx.nil (hK13 _ _ (Sx.plain ?_))
  refine Zv F (Bn (iI (j + 1 : Nat)) F rfl rfl rfl (i_addN rfl (in_i64 _ (by omega)))) fun A F => ?_
  refine Av F fun A F => ?_
  refine Sx.nil ?_
  try dsimp only [Exit.then]
  exact ⟨n - (j + 1), by omega, j + 1, v1, Hf.step h', rfl, by omega, by show Bd.g4.step (Bd.g4.it j (Bd.mk4 h)) = _; rw [he]; rfl, F.to ⟨rfl, rfl, rfl, rfl, rfl, rfl, rfl, rfl, trivial⟩, by rw [Bd.Gp.u64s_ws, he]; exact H.to' [1, 2] [0] (by decide) (by decide) rfl rfl⟩
 ·obtain rfl : j = n := by omega
  refine Sp fun _ kk => Zv F (Bn bF F rfl rfl rfl (i_lt (by simp))) fun A F => ?_
  refine Nl kk (Sx.seq fun K16 hK16 => condF F rfl (wp_exit ?_))
  try dsimp only [Exit.then, Exit.jump, Exit.noGoto]
  refine exit_here (hK9 _ _ (Sx.seq fun K17 hK17 => ?_))
  have F := F.tq [(2, pT g1 0), (5, pT g2 0), (9, v)] rfl
  refine Dn F [some (v), some (.agg #[iI 4, iU 0, iU 0, iU 0, iU 0, iU 0, uN (Wd.hi 0#128), uN (Wd.lo 0#128), uN (Wd.hi 0#128), uN (Wd.lo 0#128), uH ((h').c), uL ((h').c), iW (((h').k0).toNat), iW (((h').k1).toNat), .bool ((h').b)]), some (v), none, some (iI 0)] (fun L A w => Sx.Own w0 w [(true, g1, [iI 4, iU 0, iU 0, iU 0, iU 0, iU 0, uN (Wd.hi 0#128), uN (Wd.lo 0#128), uN (Wd.hi 0#128), uN (Wd.lo 0#128), uH ((h').c), uL ((h').c), iW (((h').k0).toNat), iW (((h').k1).toNat), .bool ((h').b)]), (true, g2, (cond (L 3) [iI 4, iU 0, iU 0, iU 0, iU 0, iU 0, uN (Wd.hi 0#128), uN (Wd.lo 0#128), uN (Wd.hi 0#128), uN (Wd.lo 0#128), uH ((h').c), uL ((h').c), iW (((h').k0).toNat), iW (((h').k1).toNat), .bool ((h').b)] L6))] [⟨true, v, 22, 1, j, (u64s (Bd.g4.ws j (Bd.mk4 h)))⟩]) H.drew ?_ ?_
  ·refine ⟨?_, ?_, ?_, ?_, ?_, trivial⟩
   ·exact Sa
   ·exact SV (fun _ _ _ F H => Lr 0 [iI 4, iU 0, iU 0, iU 0, iU 0, iU 0, uN (Wd.hi 0#128), uN (Wd.lo 0#128), uN (Wd.hi 0#128), uN (Wd.lo 0#128), uH ((h').c), uL ((h').c), iW (((h').k0).toNat), iW (((h').k1).toNat), .bool ((h').b)] rw_35 F H)
   ·exact Sa
   ·intro L A w up hun hd F H
    have f3 : L 3 = false := hun
    rw [f3] at H
    refine step_on rfl (d_store (i := 1) (xs := [iI 4, iU 0, iU 0, iU 0, iU 0, iU 0, uN (Wd.hi 0#128), uN (Wd.lo 0#128), uN (Wd.hi 0#128), uN (Wd.lo 0#128), uH ((h').c), uL ((h').c), iW (((h').k0).toNat), iW (((h').k1).toNat), .bool ((h').b)]) (us := [iI 4, iU 0, iU 0, iU 0, iU 0, iU 0, uN (Wd.hi 0#128), uN (Wd.lo 0#128), uN (Wd.hi 0#128), uN (Wd.lo 0#128), uH ((h').c), uL ((h').c), iW (((h').k0).toNat), iW (((h').k1).toNat), .bool ((h').b)]) sz_35 F H rfl rfl rfl rfl rfl rfl rfl (Nat.le_of_ble_eq_true rfl) rfl) ?_
    intro xv w' H
    exact ⟨Cn, H⟩
   ·exact Sa
  ·intro L A w hL F H
   have t3 : L 3 = true := hL 3 rfl
   rw [t3] at H
   have F := F.tq [(5, pT g2 0), (4, v), (6, iI 0)] rfl
   refine hK17 _ _ (Wr (ret3 F Tryz.results55 (res_tmp F rfl) (res_row (i := 1) (xs := [iI 4, iU 0, iU 0, iU 0, iU 0, iU 0, uN (Wd.hi 0#128), uN (Wd.lo 0#128), uN (Wd.hi 0#128), uN (Wd.lo 0#128), uH ((h').c), uL ((h').c), iW (((h').k0).toNat), iW (((h').k1).toNat), .bool ((h').b)]) rw_35 F H rfl rfl rfl rfl) (res_tmp F rfl) ?_))
   exact ⟨_, by rw [he]; rfl, H.row 0 _ rfl rfl, H.below⟩
namespace Dg
def dsF : Nat → Nat → List Nat
  | 0, _ => []
  | f + 1, n => if n < 10 then [n] else n % 10 :: dsF f (n / 10)
def ds (n : Nat) : List Nat := dsF 39 n
theorem dsF_step (f n : Nat) (h : 10 ≤ n) : dsF (f + 1) n = n % 10 :: dsF f (n / 10) := by
  show (if n < 10 then _ else _) = _
  rw [if_neg (by omega)]
theorem dsF_small (f n : Nat) (h : n < 10) : dsF (f + 1) n = [n] := by
  show (if n < 10 then _ else _) = _
  rw [if_pos h]
theorem pow10 (k : Nat) : 10 ^ (k + 1) = 10 * 10 ^ k := by rw [Nat.pow_succ, Nat.mul_comm]
abbrev M : Nat := 340282366920938463463374607431768211456
theorem len_le : ∀ (f n : Nat), (dsF f n).length ≤ f := by
  intro f
  induction f with
  | zero => intro n; exact Nat.le_refl _
  | succ f ih =>
    intro n
    by_cases hn : n < 10
    · rw [dsF_small _ _ hn]; simp
    · rw [dsF_step _ _ (by omega)]; have := ih (n / 10); simp; omega
theorem low : ∀ (f n : Nat), 1 ≤ n → 10 ^ ((dsF f n).length - 1) ≤ n := by
  intro f
  induction f with
  | zero => intro n h; exact h
  | succ f ih =>
    intro n h
    by_cases hn : n < 10
    · rw [dsF_small _ _ hn]; exact h
    · rw [dsF_step _ _ (by omega)]
      have := ih (n / 10) (by omega)
      rw [List.length_cons, Nat.add_sub_cancel]
      rcases hl : (dsF f (n / 10)).length with _ | k
      · exact h
      · rw [hl, Nat.add_sub_cancel] at this; rw [pow10]; omega
def big : List Nat → Nat
  | [] => 0
  | d :: l => d * 10 ^ l.length + big l
theorem big_lt : ∀ l : List Nat, (∀ d ∈ l, d < 10) → big l < 10 ^ l.length
  | [], _ => by simp [big]
  | a :: l, h => by
    have h1 := big_lt l (fun d hd => h d (List.mem_cons_of_mem _ hd))
    have h2 := h a (List.mem_cons_self ..)
    rw [big, List.length_cons, pow10]
    have : a * 10 ^ l.length ≤ 9 * 10 ^ l.length := Nat.mul_le_mul_right _ (by omega)
    omega
def byte (d : Nat) : UInt8 := UInt8.ofNat (48 + d)
theorem byte_nat (d : Nat) (h : d < 10) : (byte d).toNat = 48 + d := by
  unfold byte; rw [UInt8.toNat_ofNat']; omega
theorem byte_lt (d e : Nat) (hd : d < 10) (he : e < 10) : decide (byte d < byte e) = decide (d < e) := by
  rw [decide_eq_decide, UInt8.lt_iff_toNat_lt, byte_nat d hd, byte_nat e he]; omega
theorem byte_eq (d e : Nat) (hd : d < 10) (he : e < 10) : (byte d == byte e) = decide (d = e) := by
  rw [Bool.eq_iff_iff, beq_iff_eq, decide_eq_true_iff]
  constructor
  · intro h; have := congrArg UInt8.toNat h; rw [byte_nat d hd, byte_nat e he] at this; omega
  · rintro rfl; rfl
theorem less : ∀ x y : List Nat, x.length = y.length → (∀ d ∈ x, d < 10) → (∀ d ∈ y, d < 10) → Op.bytesLess (x.map byte) (y.map byte) = decide (big x < big y)
  | [], [], _, _, _ => rfl
  | [], _ :: _, h, _, _ => by cases h
  | _ :: _, [], h, _, _ => by cases h
  | a :: x, b :: y, h, hx, hy => by
    have hl : x.length = y.length := by simpa using h
    have hx' := fun d hd => hx d (List.mem_cons_of_mem _ hd)
    have hy' := fun d hd => hy d (List.mem_cons_of_mem _ hd)
    have ih := less x y hl hx' hy'
    have ha := hx a (List.mem_cons_self ..)
    have hb := hy b (List.mem_cons_self ..)
    have l1 := big_lt x hx'
    have l2 := big_lt y hy'
    rw [hl] at l1
    show (decide (byte a < byte b) || (byte a == byte b && Op.bytesLess (x.map byte) (y.map byte))) = _
    rw [byte_lt a b ha hb, byte_eq a b ha hb, ih, big, big, hl]
    rcases Nat.lt_trichotomy a b with h | h | h
    · have : (a + 1) * 10 ^ y.length ≤ b * 10 ^ y.length := Nat.mul_le_mul_right _ (by omega)
      rw [Nat.add_mul] at this
      have e : a * 10 ^ y.length + big x < b * 10 ^ y.length + big y := by omega
      rw [decide_eq_true h, decide_eq_true e]; rfl
    · subst h
      rw [decide_eq_false (by omega), decide_eq_true rfl, Bool.false_or, Bool.true_and, decide_eq_decide]; omega
    · have : (b + 1) * 10 ^ y.length ≤ a * 10 ^ y.length := Nat.mul_le_mul_right _ (by omega)
      rw [Nat.add_mul] at this
      have e : ¬ (a * 10 ^ y.length + big x < b * 10 ^ y.length + big y) := by omega
      rw [decide_eq_false (show ¬ a < b by omega), decide_eq_false (show ¬ a = b by omega), decide_eq_false e]; rfl
def len (n : Nat) : Nat := (ds n).length
end Dg
namespace By
def bys (f : Nat → Nat) (n : Nat) : List Value := (List.range n).map fun i => .int .u8 (f i : Nat)
theorem at_ (f : Nat → Nat) (n k : Nat) (h : k < n) : (bys f n)[k]? = some (.int .u8 (f k : Nat)) := by simp [bys, h]
theorem snoc (f : Nat → Nat) (n : Nat) : bys f (n + 1) = bys f n ++ [.int .u8 (f n : Nat)] := by simp [bys, List.range_succ]
theorem len (f : Nat → Nat) (n : Nat) : (bys f n).length = n := by simp [bys]
def put (a : BitVec 128) (i : Nat) : Nat := a.toNat / 2 ^ (8 * i) % 256
theorem put_lo (a : BitVec 128) (i : Nat) : (Wd.lo (a >>> (8 * i))).toNat % 256 = put a i := by
  rw [Wd.lo_nat, BitVec.toNat_ushiftRight, Nat.shiftRight_eq_div_pow, put]; omega
def row (a : BitVec 128) (i : Nat) : List Value := bys (put a) i ++ List.replicate (16 - i) (.int .u8 0)
theorem row_set (a : BitVec 128) (i : Nat) (h : i < 16) : (row a i).set i (.int .u8 (put a i : Nat)) = row a (i + 1) := by
  have e : 16 - i = (16 - (i + 1)) + 1 := by omega
  unfold row
  rw [e, List.replicate_succ, List.set_append_right _ _ (by rw [len]; exact Nat.le_refl _), len, Nat.sub_self, List.set_cons_zero, snoc, List.append_assoc]; rfl
theorem row_all (a : BitVec 128) : row a 16 = bys (put a) 16 := by unfold row; rw [Nat.sub_self, List.replicate_zero, List.append_nil]
def Rd (w : World) (v : Value) (f : Nat → Nat) (len : Nat) : Prop := len ≤ 1000000 ∧ ∃ ad cap, v = .slice ad len cap ∧ ∀ k, k < len → ∃ g o, ad = some ⟨g, o, none⟩ ∧ w.cell? ⟨g, o + k, none⟩ = some (.int .u8 (f k : Nat))
theorem Rd.below {w w' : World} {v : Value} {f : Nat → Nat} {len : Nat} (h : Rd w v f len) (hb : Below w.heap.size w w') : Rd w' v f len := by
  obtain ⟨hl, ad, cap, rfl, hc⟩ := h
  refine ⟨hl, ad, cap, rfl, fun k hk => ?_⟩
  obtain ⟨g, o, e, hcell⟩ := hc k hk
  exact ⟨g, o, e, (hb.cell (p := ⟨g, o + k, none⟩) (lt_cell hcell)).trans hcell⟩
theorem Rd.row {w : World} {lo : Nat} {E : TypeId} {v : Value} {f : Nat → Nat} {len : Nat} (h : w.ownsRow lo E 1 v len (bys f len)) (hl : len ≤ 1000000) : Rd w v f len := by
  refine ⟨hl, ?_⟩
  rcases h.2 with ⟨rfl, rfl⟩ | ⟨g, cap, cur, rfl, _⟩
  · exact ⟨none, 0, rfl, fun k hk => absurd hk (Nat.not_lt_zero _)⟩
  · exact ⟨_, cap, rfl, fun k hk => ⟨g, 0, rfl, by rw [Nat.zero_add, World.ownsRow.cellAt h k (by omega), at_ f len k hk]⟩⟩
def num (f : Nat → Nat) : Nat → Nat
  | 0 => 0
  | i + 1 => num f i + f i * 2 ^ (8 * i)
def val (f : Nat → Nat) (i : Nat) : BitVec 128 := BitVec.ofNat 128 (num f i)
theorem take_step (f : Nat → Nat) (i : Nat) (hf : f i < 256) : val f i + (Wd.of (BitVec.ofNat 64 (f i))) <<< (8 * i) = val f (i + 1) := by
  apply BitVec.eq_of_toNat_eq
  have e : (Wd.of (BitVec.ofNat 64 (f i))).toNat = f i := by
    unfold Wd.of; rw [Wd.mk_nat, BitVec.toNat_ofNat]; simp; omega
  rw [BitVec.toNat_add, BitVec.toNat_shiftLeft, e, val, val, BitVec.toNat_ofNat, BitVec.toNat_ofNat, num, Nat.shiftLeft_eq, ← Nat.add_mod]
theorem num_put (a : BitVec 128) : ∀ i, num (put a) i = a.toNat % 2 ^ (8 * i)
  | 0 => by rw [num, Nat.mul_zero, Nat.pow_zero, Nat.mod_one]
  | i + 1 => by
    rw [num, num_put a i, put, show 8 * (i + 1) = 8 * i + 8 from by omega, Nat.pow_add, Nat.mod_mul, Nat.mul_comm (2 ^ (8 * i))]
theorem back (a : BitVec 128) : val (put a) 16 = a := by
  apply BitVec.eq_of_toNat_eq
  rw [val, BitVec.toNat_ofNat, num_put, Nat.mod_mod]; exact Nat.mod_eq_of_lt a.isLt
end By
namespace Dg
def row (D : List Nat) : List Value := (D.map fun d => ((48 + d : Nat) : Int)).map (Value.int .u8)
end Dg
open Sx in
theorem wput_c (da : BitVec 128) (w0 : World) : Calls Tryz.prog 90 #[.agg #[uH da, uL da]] w0 fun e w' => ∃ v, e = .returned v ∧ w'.ownsRow w0.heap.size 5 1 v 16 (By.bys (By.put da) 16) ∧ Below w0.heap.size w0 w' := by
 refine En Tryz.func90 Tryz.ntmps90 fun A F => ?_
 have H := Sx.Own.start w0
 refine Sp fun _ kk => Zb F (d_box F H rfl rfl [uH da, uL da] rfl) fun g1 A w F H => ?_
 refine Av F fun A F => ?_
 refine Nl kk (Sp fun _ kk => Zr (mk := fun v => v) F (d_make (m := 16) Sx.undU8 Sx.infU8 rfl F H rfl rfl rfl (by decide) (by decide)) fun v1 A w F H => ?_)
 refine Av F fun A F => ?_
 refine Nl kk (Sx.seq fun K3 hK3 => Sp fun _ kk => Av F fun A F => ?_)
 refine Zv F (d_len (i := 0) el_66 F H rfl rfl rfl) fun A F => ?_
 refine Av F fun A F => ?_
 refine Nl kk (wp_block ?_)
 obtain ⟨lg, lc, rfl, hc1, hc2⟩ := H.open (i := 0) rfl (by omega)
 refine loop (fun q A w => ∃ i : Nat, q = 16 - i ∧ i ≤ 16 ∧ Fr 22 A [(1, pT g1 0), (3, sL lg 0 16 lc), (7, iI 16), (8, iI i)] ∧ Sx.Own w0 w [(true, g1, [uH da, uL da])] [⟨true, sL lg 0 16 lc, 5, 1, 16, (By.row da i)⟩]) 16 ⟨0, rfl, Nat.zero_le _, F.to ⟨rfl, rfl, rfl, rfl, trivial⟩, H⟩ ?_
 rintro q A w ⟨i, rfl, hi, F, H⟩
 by_cases hlt : i < 16
 ·skip
  refine Sp fun _ kk => Zv F (Bn bT F rfl rfl rfl (i_lt (decide_eq_true (by omega)))) fun A F => ?_
  refine Nl kk (Sx.seq fun K6 hK6 => condT F rfl (wp_skip (hK6 _ _ (Sx.seq fun K7 hK7 => wp_block (Sp fun _ kk => ?_)))))
  iterate 2 (refine Av F ?_; intro A F)
  refine Nl kk (Sx.plain ?_)
  iterate 4 (refine Av F ?_; intro A F)
  refine Zv F (Bn (iI (8 * i : Nat)) F rfl rfl rfl (i_mulN rfl (in_i64 _ (by omega)))) fun A F => ?_
  refine Zw F (Dc if_125 F H (wrightN_c da (8 * i) (by omega) _)) fun A w F H => ?_
  refine Zv F (d_field (v := uL (da >>> (8 * i))) F rfl rfl (by kernel_rfl)) fun A F => ?_
  refine Zv F (d_conv (v := iB (By.put da i)) F rfl rfl (c_u64_u8 _ _ (By.put_lo da i))) fun A F => ?_
  refine Zv F (d_ixR (k := i) el_66 F rfl rfl rfl (rfl) (by omega)) fun A F => ?_
  refine Zt F (d_storeR (i := 0) (k := i) sz_5 F H rfl rfl rfl rfl rfl rfl (by omega)) fun A w F H => ?_
  refine Sx.nil (hK7 _ _ (Sx.plain ?_))
  refine Zv F (Bn (iI (i + 1 : Nat)) F rfl rfl rfl (i_addN rfl (in_i64 _ (by omega)))) fun A F => ?_
  refine Av F fun A F => ?_
  refine Sx.nil ?_
  try dsimp only [Exit.then]
  exact ⟨16 - (i + 1), by omega, i + 1, rfl, by omega, F.to ⟨rfl, rfl, rfl, rfl, trivial⟩, by rw [← By.row_set da i hlt]; exact H⟩
 ·obtain rfl : i = 16 := by omega
  refine Sp fun _ kk => Av F fun A F => ?_
  refine Nl kk (Sx.seq fun K10 hK10 => condF F rfl (wp_exit ?_))
  try dsimp only [Exit.then, Exit.jump]
  refine exit_here (hK3 _ _ (Sp fun _ kk => ?_))
  iterate 2 (refine Av F ?_; intro A F)
  refine Nl kk (wp_ret ?_)
  try dsimp only [Exit.then, Exit.inBlock, Exit.jump]
  refine ret1 F Tryz.results90 (res_tmp F rfl) ?_
  exact ⟨_, rfl, rowEq (H.row 0 _ rfl rfl) rfl rfl rfl rfl (By.row_all da), H.below⟩
open Sx in
theorem wtake_s (f : Nat → Nat) (hf : ∀ k, f k < 256) (ada : Option Addr) (capa : Nat) (w0 : World) (hca : ∀ k, k < 16 → ∃ b o, ada = some ⟨b, o, none⟩ ∧ w0.cell? ⟨b, o + k, none⟩ = some (iB (f k : Nat))) : Calls Tryz.prog 144 #[.slice ada 16 capa] w0 fun e w' => e = .returned (.tuple #[.agg #[uH (By.val f 16), uL (By.val f 16)], iI 0]) ∧ Below w0.heap.size w0 w' := by
 refine En Tryz.func144 Tryz.ntmps144 fun A F => ?_
 have H := Sx.Own.start w0
 refine Sp fun _ kk => Zb F (d_alloc H rfl L1 zero_26) fun g1 A w F H => ?_
 refine Av F fun A F => ?_
 refine Nl kk (Sx.seq fun K2 hK2 => Sp fun _ kk => Av F fun A F => ?_)
 refine Zv F (d_lenS el_66 F rfl rfl) fun A F => ?_
 refine Av F fun A F => ?_
 refine Nl kk (condF F rfl (wp_skip (hK2 _ _ (Sp fun _ kk => Zb F (d_alloc H rfl L1 zero_26) fun g2 A w F H => ?_))))
 refine Nl kk (Sx.seq fun K5 hK5 => Sp fun _ kk => Av F fun A F => ?_)
 refine Zv F (d_lenS el_66 F rfl rfl) fun A F => ?_
 refine Av F fun A F => ?_
 refine Nl kk (wp_block (loop (fun q A w => ∃ i : Nat, q = 16 - i ∧ i ≤ 16 ∧ Fr 31 A [(2, pT g1 0), (4, pT g2 0), (11, .slice ada 16 capa), (12, iI 16), (13, iI i)] ∧ Sx.Own w0 w [(true, g2, [uH (By.val f i), uL (By.val f i)]), (true, g1, L1)] []) 16 ⟨0, rfl, Nat.zero_le _, F.to ⟨rfl, rfl, rfl, rfl, rfl, trivial⟩, H⟩ ?_))
 rintro q A w ⟨i, rfl, hi, F, H⟩
 by_cases hlt : i < 16
 ·obtain ⟨ga, oa, hada, hcella⟩ := hca _ hlt
  have hfi := hf i
  refine Sp fun _ kk => Zv F (Bn bT F rfl rfl rfl (i_lt (decide_eq_true (by omega)))) fun A F => ?_
  refine Nl kk (Sx.seq fun K8 hK8 => condT F rfl (wp_skip (hK8 _ _ (Sx.seq fun K9 hK9 => wp_block (Sp fun _ kk => Av F fun A F => ?_)))))
  refine Zv F (d_ix1 (k := i) (g := ga) (off := oa) el_66 F rfl rfl hada rfl (rfl) (by omega)) fun A F => ?_
  refine Zv F (d_loadF one_5 F H rfl rfl hcella) fun A F => ?_
  iterate 2 (refine Av F ?_; intro A F)
  refine Nl kk ?_
  have F := F.tq [(2, pT g1 0), (4, pT g2 0), (11, .slice ada 16 capa), (12, iI 16), (13, iI i), (14, bT), (15, iI i), (16, .pointer (some ⟨ga, oa + i, none⟩)), (17, iB (f i)), (5, iI i), (6, iB (f i))] rfl
  refine Dn F [some (.agg #[uH (By.val f i), uL (By.val f i)]), some (iB (f i)), some (uN (BitVec.ofNat 64 (f i))), some (.agg #[uH (Wd.of (BitVec.ofNat 64 (f i))), uL (Wd.of (BitVec.ofNat 64 (f i)))]), some (iI i), some (iI (8 * i : Nat)), some (.agg #[uH ((Wd.of (BitVec.ofNat 64 (f i))) <<< (8 * i)), uL ((Wd.of (BitVec.ofNat 64 (f i))) <<< (8 * i))]), some (.tuple #[.agg #[uH ((By.val f i) + ((Wd.of (BitVec.ofNat 64 (f i))) <<< (8 * i))), uL ((By.val f i) + ((Wd.of (BitVec.ofNat 64 (f i))) <<< (8 * i)))], .bool (Wd.over (By.val f i) ((Wd.of (BitVec.ofNat 64 (f i))) <<< (8 * i)))]), some (.tuple #[.agg #[uH ((By.val f i) + ((Wd.of (BitVec.ofNat 64 (f i))) <<< (8 * i))), uL ((By.val f i) + ((Wd.of (BitVec.ofNat 64 (f i))) <<< (8 * i)))], .bool (Wd.over (By.val f i) ((Wd.of (BitVec.ofNat 64 (f i))) <<< (8 * i)))]), some (.agg #[uH ((By.val f i) + ((Wd.of (BitVec.ofNat 64 (f i))) <<< (8 * i))), uL ((By.val f i) + ((Wd.of (BitVec.ofNat 64 (f i))) <<< (8 * i)))]), some (.bool (Wd.over (By.val f i) ((Wd.of (BitVec.ofNat 64 (f i))) <<< (8 * i)))), none] (fun L A w => Sx.Own w0 w [(true, g2, (cond (L 11) [uH ((By.val f i) + ((Wd.of (BitVec.ofNat 64 (f i))) <<< (8 * i))), uL ((By.val f i) + ((Wd.of (BitVec.ofNat 64 (f i))) <<< (8 * i)))] [uH (By.val f i), uL (By.val f i)])), (true, g1, L1)] []) H.drew ?_ ?_
  ·refine ⟨?_, ?_, ?_, ?_, ?_, ?_, ?_, ?_, ?_, ?_, ?_, ?_, trivial⟩
   ·intro L A w up hun hd F H
    have f11 : L 11 = false := up 11 0 rfl hun
    have Hj := H; rw [f11] at Hj
    refine step_on rfl (Lr 0 [uH (By.val f i), uL (By.val f i)] rw_26 F Hj) ?_
    rintro xv w' ⟨hx, rfl⟩
    exact ⟨Cs hx, H⟩
   ·exact Sa
   ·exact SV (fun _ _ _ F _ => d_conv (v := uN (BitVec.ofNat 64 (f i))) F rfl rfl (c_u8_u64 _ (by omega) _))
   ·intro L A w up hun hd F H
    have f11 : L 11 = false := up 11 3 rfl hun
    rw [f11] at H
    refine step_on rfl (Dc if_15 F H (wofV_c (BitVec.ofNat 64 (f i)) _)) ?_
    rintro xv w' ⟨hx, H⟩
    exact ⟨Cs hx, (by show Sx.Own _ _ _ _; rw [show Inv.add L 3 11 = false from f11]; exact H)⟩
   ·exact Sa
   ·exact SV (fun _ _ _ F _ => Bn (iI (8 * i : Nat)) F rfl rfl rfl (i_mulN rfl (in_i64 _ (by omega))))
   ·intro L A w up hun hd F H
    have f11 : L 11 = false := up 11 6 rfl hun
    rw [f11] at H
    refine step_on rfl (Dc if_42 F H (wleftN_c (Wd.of (BitVec.ofNat 64 (f i))) (8 * i) (by omega) _)) ?_
    rintro xv w' ⟨hx, H⟩
    exact ⟨Cs hx, (by show Sx.Own _ _ _ _; rw [show Inv.add L 6 11 = false from f11]; exact H)⟩
   ·intro L A w up hun hd F H
    have f11 : L 11 = false := up 11 7 rfl hun
    rw [f11] at H
    refine step_on rfl (Dc if_14 F H (wadd_c (By.val f i) ((Wd.of (BitVec.ofNat 64 (f i))) <<< (8 * i)) _)) ?_
    rintro xv w' ⟨hx, H⟩
    exact ⟨Cs hx, (by show Sx.Own _ _ _ _; rw [show Inv.add L 7 11 = false from f11]; exact H)⟩
   ·exact Sa
   ·exact Sa
   ·exact Sa
   ·intro L A w up hun hd F H
    have f11 : L 11 = false := hun
    rw [f11] at H
    refine step_on rfl (d_store (i := 0) (xs := [uH ((By.val f i) + ((Wd.of (BitVec.ofNat 64 (f i))) <<< (8 * i))), uL ((By.val f i) + ((Wd.of (BitVec.ofNat 64 (f i))) <<< (8 * i)))]) (us := [uH ((By.val f i) + ((Wd.of (BitVec.ofNat 64 (f i))) <<< (8 * i))), uL ((By.val f i) + ((Wd.of (BitVec.ofNat 64 (f i))) <<< (8 * i)))]) sz_26 F H rfl rfl rfl rfl rfl rfl rfl (Nat.le_of_ble_eq_true rfl) rfl) ?_
    intro xv w' H
    exact ⟨Cn, H⟩
  ·intro L A w hL F H
   have t11 : L 11 = true := hL 11 rfl
   rw [t11] at H
   have F := F.tq [(2, pT g1 0), (4, pT g2 0), (11, .slice ada 16 capa), (12, iI 16), (13, iI i), (14, bT), (15, iI i), (16, .pointer (some ⟨ga, oa + i, none⟩)), (17, iB (f i)), (5, iI i), (6, iB (f i))] rfl
   refine hK9 _ _ (Sx.plain ?_)
   refine Zv F (Bn (iI (i + 1 : Nat)) F rfl rfl rfl (i_addN rfl (in_i64 _ (by omega)))) fun A F => ?_
   refine Av F fun A F => ?_
   refine Sx.nil ?_
   try dsimp only [Exit.then]
   exact ⟨16 - (i + 1), by omega, i + 1, rfl, by omega, F.to ⟨rfl, rfl, rfl, rfl, rfl, trivial⟩, by rw [← By.take_step f i hfi]; exact H⟩
 ·obtain rfl : i = 16 := by omega
  refine Sp fun _ kk => Av F fun A F => ?_
  refine Nl kk (Sx.seq fun K12 hK12 => condF F rfl (wp_exit ?_))
  try dsimp only [Exit.then, Exit.jump]
  refine exit_here (hK5 _ _ (Sp fun _ kk => Av F fun A F => ?_))
  refine Zs 1 [uH (By.val f 16), uL (By.val f 16)] sz_26 F H fun A w F H => ?_
  refine Av F fun A F => ?_
  refine Nl kk (wp_ret ?_)
  try dsimp only [Exit.then, Exit.inBlock, Exit.jump]
  refine ret2 F Tryz.results144 (res_row (i := 1) (xs := [uH (By.val f 16), uL (By.val f 16)]) rw_26 F H rfl rfl rfl rfl) (res_tmp F rfl) ⟨?_, H.below⟩
  rfl
theorem wtake_ok (f : Nat → Nat) (hf : ∀ k, f k < 256) (va : Value) (w : World) (ha : By.Rd w va f 16) : Calls Tryz.prog 144 #[va] w fun e w' => e = .returned (.tuple #[.agg #[.int .u64 ((Wd.hi (By.val f 16)).toNat), .int .u64 ((Wd.lo (By.val f 16)).toNat)], .int .i64 0]) ∧ Below w.heap.size w w' := by
  obtain ⟨hl, ada, capa, rfl, hca⟩ := ha
  exact wtake_s f hf ada capa w hca

section
open Go Go.RowKit Go.ChangeMaps
namespace Sx
section
variable {P : Program} {ds : List Deferred} {ops : Array Oper} {Q : Exit → Act → World → Prop} {w0 w : World} {a : Act} {o : Oper} {rest : List Oper} {n : Nat} {kv : List (Nat × Value)} {bs : List Bx} {rs : List Rx} {K : Nat → Option Obj}
theorem sDefer {fn : Fn} {c : Operand} {xs : Array Operand} {ts : Array TypeId} {vs fv cv : List Value} (F : Fr n a kv ds) (ho : o.op = .defer { callee := .value c, args := xs, argTypes := ts }) (hc : ev kv c = some (.func fn fv.toArray cv.toArray)) (hxs : xs.toList.map (ev kv) = vs.map some) (hg : Region.wanted o (yielded ops a.tmps) = true) (hd : o.dst = none)
    (h : ∀ a', Fr n a' kv ({ target := .fn fn cv.toArray, args := (fv ++ vs).toArray } :: ds) → wpList P ops Q rest a' w) : wpList P ops Q (o :: rest) a w := by
  have hr : (execOp a.eval o).run P w = .ok (.defer { target := .fn fn cv.toArray, args := (fv ++ vs).toArray }) w := by
    unfold execOp; rw [ho]
    simp only [resolve, args_eq F hxs, F.ev hc, Deferred.ofValue]
    simp
  unfold wpList
  rw [if_pos hg]
  refine .inl ?_
  unfold Oper.wp
  rw [hr, Oper.upon_defer, hd]
  exact h _ ⟨F.size, congrArg _ F.defers, F.get⟩
theorem enterD {f : FuncId} {fn : Func} {c : Code} {args : List Value} {R : Ending → World → Prop} {n : Nat} (hf : P.funcs[f]? = some fn) (hb : fn.body = some c) (hn : fn.ntmps = n) (hl : args.length ≤ n)
    (h : ∀ a, Fr n a (kvOf 0 args) → c.wp P (bodyPostD P fn R) a w) : Calls P f args.toArray w R := by
  refine calls_of_wp_defers hf hb (h _ ?_)
  have := Fr.start args n
  rw [show args.length + (n - args.length) = n from by omega] at this
  rw [hn]
  simpa using this
theorem enterDD {f : FuncId} {fn : Func} {c : Code} {args : List Value} {R : Ending → World → Prop} {u : FrameMode} {n : Nat} (hf : P.funcs[f]? = some fn) (hb : fn.body = some c) (hn : fn.ntmps = n) (hl : args.length ≤ n)
    (h : ∀ a, Fr n a (kvOf 0 args) → c.wp P (bodyPost P fn R) a w) : CallsD P f args.toArray u w fun e u' w' => u' = u ∧ R e w' := by
  refine callsD_of_wp hf hb (h _ ?_)
  have := Fr.start args n
  rw [show args.length + (n - args.length) = n from by omega] at this
  rw [hn]
  simpa using this
theorem leave1 {f : FuncId} {fn : Func} {R : Ending → World → Prop} {fv vs cv : List Value} {S : Value → World → Prop} (F : Fr n a kv [{ target := .fn (.func f) cv.toArray, args := (fv ++ vs).toArray }]) (hf : isFn P f)
    (hD : CallsD P f (fv ++ vs ++ cv).toArray .returning w fun e u' w' => u' = .returning ∧ ∃ x, e = .returned x ∧ S x w') (h : ∀ x w', S x w' → ∃ v, (results fn a.tmps).run P w' = .ok v w' ∧ R (.returned v) w') : bodyPostD P fn R .ret a w := by
  show Leaves P fn a.tmps R a.defers .returning w
  rw [F.defers]
  refine leaves_cons (f := f) (args := (fv ++ vs ++ cv).toArray) (fun h => by cases h) ?_ (hD.mono ?_)
  · have := hf (fv ++ vs ++ cv).toArray w
    simpa [invoke] using this
  · rintro e u' w' ⟨rfl, x, rfl, hS⟩
    show Leaves P fn a.tmps R [] (settle .returning) w'
    exact h x w' hS
theorem res2 {fn : Func} {r s : ResultVar} {v u : Value} {tm : Array Value} (hrs : fn.results = #[r, s]) (h : resOf P tm w r v) (h2 : resOf P tm w s u) : (results fn tm).run P w = .ok (.tuple #[v, u]) w := by
  unfold resOf at h h2
  rw [results_eq, hrs]
  simp [Sem.run_bind, h, h2]
theorem upd_upd (K : Nat → Option Obj) (r : Nat) (o o' : Obj) : Tb.upd (Tb.upd K r o) r o' = Tb.upd K r o' := by
  funext k; unfold Tb.upd; split <;> rfl
theorem d_mapIns {m x y : Operand} {t kt et : TypeId} {r : Nat} {ob : Obj} {l : List (Int × Value)} {h : Int} {v : Value} (hm : P.underlying t = some (.map kt et)) (ht : P.underlying kt = some (.int .i64)) (F : Fr n a kv ds) (H : Own w0 w bs rs K) (ho : o.op = .insert t m x y)
    (hx : ev kv m = some (.map (some r))) (hy : ev kv x = some (.int .i64 h)) (hv : ev kv y = some v) (hk : K r = some ob) (hl : Tb.MapIs ob l) (hn : l.find? (fun q => h == q.1) = none) : Does P o a w (fun _ w' => ∃ ob', Tb.MapIs ob' (l ++ [(h, v)]) ∧ Own w0 w' bs rs (Tb.upd K r ob')) := by
  obtain ⟨es, clock, rfl, hes⟩ := hl
  have hh := (H.kp r _ hk).1
  have hr : (execOp a.eval o).run P w = .ok .skip (setBlock w r (.map (es.push { key := .int .i64 h, val := v, born := clock }) (clock + 1))) := by
    unfold execOp; rw [ho]
    simp only [F.ev hx, F.ev hy, F.ev hv]
    unfold Instr.mapUpdate
    simp only [Sem.run_bind, run_underlying hm, Result.andThen_ok, MapKept.run_getObj_map hh, run_check ht, run_find ht hes, Tb.ixs_none h l 0 hn, MapKept.run_setObj_map _ hh]
    rfl
  refine (does_skip hr).mono ?_
  rintro _ w' rfl
  refine ⟨.map (es.push { key := .int .i64 h, val := v, born := clock }) (clock + 1), ⟨_, _, rfl, by rw [Array.toList_push, List.map_append, hes, List.map_append]; rfl⟩, H.setKeep hk ⟨rfl, rfl, rfl, by simp [setBlock], fun i _ hi => heap_setBlock_other hh _ (fun e => hi (by rw [e]))⟩ (heap_setBlock_same hh _)⟩
theorem d_sliceL' {x j : Operand} {t E : TypeId} {z bytes l len cap g off : Nat} {kd : IntKind} {i : Int} (hT : elemT P t E z bytes) (F : Fr n a kv ds) (ho : o.op = .slice t x (some j) none none) (hx : ev kv x = some (.slice (some ⟨g, off, none⟩) len cap)) (hj : ev kv j = some (.int kd i)) (hi : i = (l : Int)) (hk : l ≤ len) (hc : cap ≠ l) :
    Does P o a w (fun y w' => y = .slice (some ⟨g, off + l * z, none⟩) (len - l) (cap - l) ∧ w' = w) := by
  have h := d_sliceL (w := w) hT F ho hx hj hi hk
  rw [if_neg hc] at h
  exact h
theorem d_sliceG {t : TypeId} {x : Operand} {l h m : Option Operand} {xv v : Value} {lv hv mv : Option Value} (F : Fr n a kv ds) (ho : o.op = .slice t x l h m) (hx : ev kv x = some xv) (hl : l.map (ev kv) = lv.map some) (hh : h.map (ev kv) = hv.map some) (hm : m.map (ev kv) = mv.map some)
    (hr : (Instr.sliceAt t xv lv hv mv).run P w = .ok v w) : Does P o a w (fun y w' => y = v ∧ w' = w) := by
  have eo : ∀ {q : Option Operand} {u : Option Value}, q.map (ev kv) = u.map some → q.map a.eval = u := by
    intro q u e
    cases q with
    | none => cases u with
      | none => rfl
      | some u => cases e
    | some q => cases u with
      | none => cases e
      | some u => exact congrArg some (F.ev (Option.some.inj e))
  refine does_run ?_
  unfold execOp; rw [ho]
  simp only [F.ev hx, eo hl, eo hh, eo hm, Sem.run_bind, hr]
  rfl
theorem d_appendW {s x : Operand} {t E : TypeId} {z bytes i m k c : Nat} {v : Value} {xs news : List Value} {ad : Addr} (hT : elemT P t E z bytes) (F : Fr n a kv ds) (H : Own w0 w bs rs K) (ho : o.op = .call { callee := .builtin .append, args := #[s, x], argTypes := #[t, t] })
    (hs : ev kv s = some v) (hx : ev kv x = some (.slice (some ad) m c)) (hi : rs[i]? = some ⟨true, v, E, z, k, xs⟩) (hl : news.length = m * z) (hn : ∀ j u, news[j]? = some u → w.cell? (ad.add j) = some u) (h1 : ones news = true) (hz : Nat.ble 1 z = true)
    (h63 : k + m ≤ 1000000) (hb : bytes ≤ 1000) : Does P o a w (fun y w' => ∃ v, y = v ∧ Own w0 w' bs (rs.set i ⟨true, v, E, z, k + m, xs ++ news⟩) K) := by
  obtain ⟨ht, hinf⟩ := hT
  cases hq : P.info? E with
  | none => rw [hq] at hinf; cases hinf
  | some inf =>
    rw [hq] at hinf
    simp only [Option.map_some, Option.some.injEq, Prod.mk.injEq] at hinf
    obtain ⟨hz1, hz2, hz3⟩ := hinf
    cases hzv : inf.zero with
    | none => rw [hzv] at hz1; cases hz1
    | some zv =>
      rw [hzv] at hz1
      simp only [Option.map_some, Option.some.injEq] at hz1
      have hown : w.ownsRow w0.heap.size E z v k xs := H.row i _ hi rfl
      obtain ⟨v', w', hr, h2, h3, _, h5⟩ := run_append_own_at (P := P) w w0.heap.size t o.type E inf zv z bytes ht hq hzv hz2 hz3 hz1 (Nat.le_of_ble_eq_true hz) v k xs hown ad m c news hl
        (fun j u hu => hn j u hu) (fun u hu => List.all_eq_true.1 h1 u hu) (by unfold maxLen; omega) (by have := Nat.mul_le_mul h63 hb; omega) H.below.size
      refine (does_run (v := v') (w' := w') ?_).mono ?_
      · unfold execOp
        simp only [ho, resolve, invoke, builtin, Sem.run_bind, Sem.run_pure, Result.andThen_ok, List.map_toArray, List.map_cons, List.map_nil, F.ev hs, F.ev hx, hr]
      · rintro y w'' ⟨rfl, rfl⟩
        exact ⟨_, rfl, H.grow hi rfl (r' := ⟨true, y, E, z, k + m, xs ++ news⟩) h2 h3 h5⟩
theorem box_part {b off : Nat} {vs : List Value} (h : BoxAt w b vs) {news : List Value} (hn : (vs.drop off).take news.length = news) (j : Nat) (u : Value) (hu : news[j]? = some u) : w.cell? ((⟨b, off, none⟩ : Addr).add j) = some u := by
  have hj := (List.getElem?_eq_some_iff.1 hu).1
  have : vs[off + j]? = some u := by
    rw [← hn, List.getElem?_take, if_pos hj, List.getElem?_drop] at hu; exact hu
  rw [Addr.add_mid]
  exact (h _ _ this).1
theorem d_copyB {d s : Operand} {dT sT E : TypeId} {b k i dl dc sl sc m : Nat} {ad : Addr} {vs us cs : List Value} (hu : P.underlying dT = some (.slice E)) (hs : (P.info? E).map (·.size) = some 1) (F : Fr n a kv ds) (H : Own w0 w bs rs K)
    (ho : o.op = .call { callee := .builtin .copy, args := #[d, s], argTypes := #[dT, sT] }) (hd : ev kv d = some (.slice (some ⟨b, k, none⟩) dl dc)) (hsv : ev kv s = some (.slice (some ad) sl sc)) (hm : cs.length = m) (hn : m = Nat.min sl dl)
    (hsrc : ∀ j v, cs[j]? = some v → w.cell? (ad.add j) = some v) (h1 : ones cs = true) (hi : bs[i]? = some (true, b, vs)) (hk : k + m ≤ vs.length) (hus : splice vs k cs = us) : Does P o a w (fun x w' => x = .int .i64 (m : Nat) ∧ Own w0 w' (bs.set i (true, b, us)) rs K) := by
  subst hm
  have ht := there_of (H.box i b vs hi).1 k cs.length hk
  have hr := run_copy_cells (P := P) w dT sT o.type E b k dl dc ad sl sc cs hu hs hn hsrc (fun j hj => (ht j hj).1) (fun j hj => (ht j hj).2) (fun u hu => List.all_eq_true.1 h1 u hu)
  refine (does_run (v := .int .i64 (cs.length : Nat)) (w' := w.setCells b k cs) ?_).mono ?_
  · unfold execOp
    simp only [ho, resolve, invoke, builtin, Sem.run_bind, Sem.run_pure, Result.andThen_ok, List.map_toArray, List.map_cons, List.map_nil, F.ev hd, F.ev hsv, hr]
    rfl
  · rintro y w'' ⟨rfl, rfl⟩
    have := H.store hi k cs hk
    rw [hus] at this
    exact ⟨rfl, this⟩
end
theorem take_box (l : List Nat) (x : BitVec 128) {w : World} {g c : Nat} {xs : List Value} (hl : l.length = 16) (hx : By.val (fun k => l.getD k 0) 16 = x) (h8 : ∀ i ∈ l, i < 256) (h : BoxAt w g xs) (hxs : xs = l.map fun i => .int .u8 (i : Nat)) :
    Calls Tryz.prog 144 #[.slice (some ⟨g, 0, none⟩) 16 c] w fun e w' => e = .returned (.tuple #[.agg #[.int .u64 ((Wd.hi x).toNat), .int .u64 ((Wd.lo x).toNat)], .int .i64 0]) ∧ Below w.heap.size w w' := by
  subst hx
  subst hxs
  refine wtake_ok (fun k => l.getD k 0) (fun k => ?_) _ w ⟨by decide, _, _, rfl, fun k hk => ⟨g, 0, rfl, ?_⟩⟩
  · by_cases hk : k < l.length
    · show l.getD k 0 < 256
      rw [List.getD_eq_getElem?_getD, List.getElem?_eq_getElem hk]
      exact h8 _ (List.getElem_mem hk)
    · show l.getD k 0 < 256
      rw [List.getD_eq_getElem?_getD, List.getElem?_eq_none (by omega)]; decide
  · rw [Nat.zero_add]
    refine (h k _ ?_).1
    rw [List.getElem?_map, List.getElem?_eq_getElem (by omega)]
    show some (Value.int .u8 ((l[k] : Nat) : Int)) = some (Value.int .u8 ((l.getD k 0 : Nat) : Int))
    rw [List.getD_eq_getElem?_getD, List.getElem?_eq_getElem (by omega)]; rfl
end Sx
end
instance fa_116_0 : Inhabited (Sx.FaC Tryz.prog 116 0) := ⟨⟨0, fun _ _ _ => by kernel_rfl⟩⟩
instance fa_222_0 : Inhabited (Sx.FaC Tryz.prog 222 0) := ⟨⟨0, fun _ _ _ => by kernel_rfl⟩⟩
instance fa_222_1 : Inhabited (Sx.FaC Tryz.prog 222 1) := ⟨⟨1, fun _ _ _ => by kernel_rfl⟩⟩
instance fa_217_0 : Inhabited (Sx.FaC Tryz.prog 217 0) := ⟨⟨0, fun _ _ _ => by kernel_rfl⟩⟩
instance fa_217_1 : Inhabited (Sx.FaC Tryz.prog 217 1) := ⟨⟨1, fun _ _ _ => by kernel_rfl⟩⟩
instance fa_160_0 : Inhabited (Sx.FaC Tryz.prog 160 0) := ⟨⟨0, fun _ _ _ => by kernel_rfl⟩⟩
instance fa_160_1 : Inhabited (Sx.FaC Tryz.prog 160 1) := ⟨⟨1, fun _ _ _ => by kernel_rfl⟩⟩
instance fa_160_2 : Inhabited (Sx.FaC Tryz.prog 160 2) := ⟨⟨2, fun _ _ _ => by kernel_rfl⟩⟩
theorem zero_217 : Sx.zeroIs Tryz.prog 217 [iI 0, nP] := ⟨.agg #[iI 0, nP], rfl, fun _ => by kernel_rfl⟩
end Go.Proofs.YteecadoakmdibaaGreat
