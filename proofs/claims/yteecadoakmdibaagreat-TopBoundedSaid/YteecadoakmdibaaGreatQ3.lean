/- What the proof of TopBounded leans on: part 3. -/
import Derived.Test.YteecadoakmdibaaGreatQ1
import Derived.Test.YteecadoakmdibaaGreatQ2
set_option maxRecDepth 100000
set_option maxHeartbeats 4000000
namespace Go.Proofs.YteecadoakmdibaaGreat
open Go Go.RowKit
theorem wleft_c0 (a : BitVec 128) (n : Int) (h0 : n ≤ 0) (w : World) :
    Calls Tryz.prog 42 #[.agg #[.int .u64 (Wd.hi a).toNat, .int .u64 (Wd.lo a).toNat], .int .i64 n] w fun e w' => e = .returned (.agg #[.int .u64 (Wd.hi a).toNat, .int .u64 (Wd.lo a).toNat]) ∧ Below w.heap.size w w' := by
  go_enter Tryz.func42, Tryz.ntmps42
  go_wp2
  refine bodyPost_ret (v := .agg #[.int .u64 (Wd.hi a).toNat, .int .u64 (Wd.lo a).toNat]) (by simp [results, Tryz.results42, go_sem]) rfl ?_
  exact ⟨rfl, by (repeat' (first | (with_reducible exact Below.refl _ _) | (with_reducible assumption) | (with_reducible refine Below.alloc ?_ ?_ _) | (with_reducible refine Below.drew ?_) | (with_reducible refine below_drewN ?_ _) | (with_reducible refine Below.setCell ?_ ?_ _) | (with_reducible refine Below.trans ?_ (Below.mono (by assumption) ?_)) | go_size))⟩
theorem shl_big (x : BitVec 64) : IntKind.u64.wrap ((x.toNat : Int) * 18446744073709551616) = 0 := by rw [IntKind.wrap_u64]; omega
set_option maxRecDepth 100000 in
theorem wleft_c1 (a : BitVec 128) (k : Nat) (h1 : 64 ≤ k) (hm : (k : Int) ≤ 9223372036854775807) (w : World) :
    Calls Tryz.prog 42 #[.agg #[.int .u64 (Wd.hi a).toNat, .int .u64 (Wd.lo a).toNat], .int .i64 k] w fun e w' => e = .returned (.agg #[.int .u64 (Wd.lo a <<< (min k 128 - 64)).toNat, .int .u64 0]) ∧ Below w.heap.size w w' := by
  by_cases h2 : k ≤ 128
  · have G := Lib.hid (show (Wd.lo a <<< (min k 128 - 64)) = Wd.lo a <<< (k - 64) from by rw [Nat.min_eq_left h2])
    rw [G.out]
    have s0 : (0 : Int) ≤ (k : Int) - 64 := by omega
    have s1 : (k : Int) - 64 ≤ 64 := by omega
    go_enter Tryz.func42, Tryz.ntmps42
    go_wp2
    refine bodyPost_ret (v := .agg #[.int .u64 (Wd.lo a <<< (k - 64)).toNat, .int .u64 0]) (by rw [← shlk]; simp [results, Tryz.results42, go_sem]) rfl ?_
    exact ⟨rfl, by (repeat' (first | (with_reducible exact Below.refl _ _) | (with_reducible assumption) | (with_reducible refine Below.alloc ?_ ?_ _) | (with_reducible refine Below.drew ?_) | (with_reducible refine below_drewN ?_ _) | (with_reducible refine Below.setCell ?_ ?_ _) | (with_reducible refine Below.trans ?_ (Below.mono (by assumption) ?_)) | go_size))⟩
  · have G := Lib.hid (show (Wd.lo a <<< (min k 128 - 64)) = 0#64 from by
      rw [Nat.min_eq_right (by omega)]
      apply BitVec.eq_of_getLsbD_eq
      intro i hi
      rw [BitVec.getLsbD_shiftLeft]; simp)
    rw [G.out]
    go_enter Tryz.func42, Tryz.ntmps42
    go_wp2
    refine bodyPost_ret (v := .agg #[.int .u64 0, .int .u64 0]) (by simp [results, Tryz.results42, go_sem, shl_big]) rfl ?_
    exact ⟨rfl, by (repeat' (first | (with_reducible exact Below.refl _ _) | (with_reducible assumption) | (with_reducible refine Below.alloc ?_ ?_ _) | (with_reducible refine Below.drew ?_) | (with_reducible refine below_drewN ?_ _) | (with_reducible refine Below.setCell ?_ ?_ _) | (with_reducible refine Below.trans ?_ (Below.mono (by assumption) ?_)) | go_size))⟩
set_option maxRecDepth 100000 in
theorem wleft_c2 (a : BitVec 128) (k : Nat) (h0 : 0 < k) (h1 : k < 64) (w : World) :
    Calls Tryz.prog 42 #[.agg #[.int .u64 (Wd.hi a).toNat, .int .u64 (Wd.lo a).toNat], .int .i64 k] w fun e w' => e = .returned (.agg #[.int .u64 (Wd.hi a <<< k ||| Wd.lo a >>> (64 - k)).toNat, .int .u64 (Wd.lo a <<< k).toNat]) ∧ Below w.heap.size w w' := by
  have s0 : (0 : Int) ≤ (k : Int) := by omega
  have s1 : (k : Int) < 64 := by omega
  have s2 : (0 : Int) ≤ 64 - (k : Int) := by omega
  have s3 : 64 - (k : Int) < 64 := by omega
  have s4 : IntKind.i64.wrap (64 - (k : Int)) = 64 - (k : Int) := by simp [IntKind.wrap, IntKind.signed, IntKind.bits]; omega
  have s5 : (64 - (k : Int)).toNat = 64 - k := by omega
  go_enter Tryz.func42, Tryz.ntmps42
  go_wp2
  go_region
  all_goals go_wp2
  all_goals
    refine bodyPost_ret (v := .agg #[.int .u64 (Wd.hi a <<< k ||| Wd.lo a >>> (64 - k)).toNat, .int .u64 (Wd.lo a <<< k).toNat]) (by rw [← or64, ← shlk, ← shlk, ← shrk]; simp [results, Tryz.results42, go_sem, *]) rfl ?_
    exact ⟨rfl, by (repeat' (first | (with_reducible exact Below.refl _ _) | (with_reducible assumption) | (with_reducible refine Below.alloc ?_ ?_ _) | (with_reducible refine Below.drew ?_) | (with_reducible refine below_drewN ?_ _) | (with_reducible refine Below.setCell ?_ ?_ _) | (with_reducible refine Below.trans ?_ (Below.mono (by assumption) ?_)) | go_size))⟩
theorem wleft_c (a : BitVec 128) (n : Int) (hm : n ≤ 9223372036854775807) (w : World) :
    Calls Tryz.prog 42 #[.agg #[.int .u64 (Wd.hi a).toNat, .int .u64 (Wd.lo a).toNat], .int .i64 n] w fun e w' => e = .returned (.agg #[.int .u64 (Wd.hi (a <<< n.toNat)).toNat, .int .u64 (Wd.lo (a <<< n.toNat)).toNat]) ∧ Below w.heap.size w w' := by
  by_cases h0 : n ≤ 0
  · refine Calls.val (wleft_c0 a n h0 w) rfl ?_
    rw [show n.toNat = 0 from by omega, BitVec.shiftLeft_zero]
  · obtain ⟨k, rfl⟩ := Int.eq_ofNat_of_zero_le (show 0 ≤ n from by omega)
    by_cases h1 : k < 64
    · refine Calls.val (wleft_c2 a k (by omega) h1 w) rfl ?_
      rw [Int.toNat_natCast, Wd.left_hi _ _ (by omega) h1, Wd.left_lo _ _ h1]
    · refine Calls.val (wleft_c1 a k (by omega) hm w) rfl ?_
      rw [Int.toNat_natCast, Wd.left_big_hi _ _ (by omega), Wd.left_big_lo _ _ (by omega)]; rfl
theorem wleftN_c (a : BitVec 128) (k : Nat) (h : (k : Int) ≤ 9223372036854775807) (w : World) : Calls Tryz.prog 42 #[.agg #[.int .u64 (Wd.hi a).toNat, .int .u64 (Wd.lo a).toNat], .int .i64 k] w fun e w' => e = .returned (.agg #[.int .u64 (Wd.hi (a <<< k)).toNat, .int .u64 (Wd.lo (a <<< k)).toNat]) ∧ Below w.heap.size w w' := wleft_c a k h w
theorem wrightN_c (a : BitVec 128) (k : Nat) (h : (k : Int) ≤ 9223372036854775807) (w : World) : Calls Tryz.prog 125 #[.agg #[.int .u64 (Wd.hi a).toNat, .int .u64 (Wd.lo a).toNat], .int .i64 k] w fun e w' => e = .returned (.agg #[.int .u64 (Wd.hi (a >>> k)).toNat, .int .u64 (Wd.lo (a >>> k)).toNat]) ∧ Below w.heap.size w w' := wright_c a k h w
open Sx in
theorem cnan_c (x : BitVec 64) (w0 : World) : Calls Tryz.prog 69 #[uN x] w0 fun e w' => e = .returned (bF) ∧ Below w0.heap.size w0 w' := by
 refine En Tryz.func69 Tryz.ntmps69 fun A F => ?_
 have H := Sx.Own.start w0
 refine Sp fun _ kk => Av F fun A F => ?_
 refine Nl kk (Sp fun _ kk => ?_)
 iterate 2 (refine Av F ?_; intro A F)
 refine Zv F (Bn bF F rfl rfl rfl (i_ne (by simp))) fun A F => ?_
 refine Av F fun A F => ?_
 refine Nl kk (wp_ret ?_)
 try dsimp only [Exit.then, Exit.inBlock, Exit.jump]
 refine ret1 F Tryz.results69 (res_tmp F rfl) ⟨?_, H.below⟩
 rfl
open Sx in
theorem ccmp_c (x y : BitVec 64) (w0 : World) : Calls Tryz.prog 41 #[uN x, uN y] w0 fun e w' => e = .returned (iI (Wd.cmpN x.toNat y.toNat)) ∧ Below w0.heap.size w0 w' := by
 refine En Tryz.func41 Tryz.ntmps41 fun A F => ?_
 have H := Sx.Own.start w0
 refine Sp fun _ kk => Av F fun A F => ?_
 refine Nl kk (Sp fun _ kk => Av F fun A F => ?_)
 refine Zw F (Dc if_69 F H (cnan_c x _)) fun A w F H => ?_
 refine Av F fun A F => ?_
 refine Nl kk (Sp fun _ kk => Av F fun A F => ?_)
 refine Zw F (Dc if_69 F H (cnan_c y _)) fun A w F H => ?_
 refine Av F fun A F => ?_
 refine Nl kk (Sx.seq fun K4 hK4 => Sp fun _ kk => Av F fun A F => ?_)
 refine Nl kk (condF F rfl (wp_skip (hK4 _ _ (Sx.seq fun K6 hK6 => Sp fun _ kk => Av F fun A F => ?_))))
 refine Nl kk (condF F rfl (wp_skip (hK6 _ _ ?_)))
 rcases Nat.lt_trichotomy x.toNat y.toNat with hl | hl | hl
 ·skip
  refine Sx.seq fun K8 hK8 => Sp fun _ kk => ?_
  iterate 2 (refine Av F ?_; intro A F)
  refine Zv F (Bn bT F rfl rfl rfl (i_lt (decide_eq_true (by omega)))) fun A F => ?_
  refine Nl kk (condT F rfl (Sp fun _ kk => Av F fun A F => ?_))
  refine Nl kk (wp_ret ?_)
  try dsimp only [Exit.then, Exit.inBlock, Exit.jump]
  refine ret1 F Tryz.results41 (res_tmp F rfl) ⟨?_, H.below⟩
  rw [Wd.cmpN_lt hl]
 ·skip
  refine Sx.seq fun K11 hK11 => Sp fun _ kk => ?_
  iterate 2 (refine Av F ?_; intro A F)
  refine Zv F (Bn bF F rfl rfl rfl (i_lt (decide_eq_false (by omega)))) fun A F => ?_
  refine Nl kk (condF F rfl (wp_skip (hK11 _ _ (Sx.seq fun K13 hK13 => Sp fun _ kk => ?_))))
  iterate 2 (refine Av F ?_; intro A F)
  refine Zv F (Bn bF F rfl rfl rfl (i_gt (decide_eq_false (by omega)))) fun A F => ?_
  refine Nl kk (condF F rfl (wp_skip (hK13 _ _ (Sp fun _ kk => Av F fun A F => ?_))))
  refine Nl kk (wp_ret ?_)
  try dsimp only [Exit.then, Exit.inBlock, Exit.jump]
  refine ret1 F Tryz.results41 (res_tmp F rfl) ⟨?_, H.below⟩
  rw [Wd.cmpN_eq hl]
 ·skip
  refine Sx.seq fun K16 hK16 => Sp fun _ kk => ?_
  iterate 2 (refine Av F ?_; intro A F)
  refine Zv F (Bn bF F rfl rfl rfl (i_lt (decide_eq_false (by omega)))) fun A F => ?_
  refine Nl kk (condF F rfl (wp_skip (hK16 _ _ (Sx.seq fun K18 hK18 => Sp fun _ kk => ?_))))
  iterate 2 (refine Av F ?_; intro A F)
  refine Zv F (Bn bT F rfl rfl rfl (i_gt (decide_eq_true (by omega)))) fun A F => ?_
  refine Nl kk (condT F rfl (Sp fun _ kk => Av F fun A F => ?_))
  refine Nl kk (wp_ret ?_)
  try dsimp only [Exit.then, Exit.inBlock, Exit.jump]
  refine ret1 F Tryz.results41 (res_tmp F rfl) ⟨?_, H.below⟩
  rw [Wd.cmpN_gt hl]
open Sx in
theorem wcmp_c (da db : BitVec 128) (w0 : World) : Calls Tryz.prog 16 #[.agg #[uH da, uL da], .agg #[uH db, uL db]] w0 fun e w' => e = .returned (iI (Wd.cmp da db)) ∧ Below w0.heap.size w0 w' := by
 refine En Tryz.func16 Tryz.ntmps16 fun A F => ?_
 have H := Sx.Own.start w0
 refine Sp fun _ kk => Zb F (d_box F H rfl rfl [uH da, uL da] rfl) fun g1 A w F H => ?_
 refine Zb F (d_box F H rfl rfl [uH db, uL db] rfl) fun g2 A w F H => ?_
 refine Av F fun A F => ?_
 refine Nl kk ?_
 by_cases he : (Wd.hi da).toNat = (Wd.hi db).toNat
 ·skip
  refine Sx.seq fun K2 hK2 => Sp fun _ kk => ?_
  iterate 4 (refine Av F ?_; intro A F)
  refine Zv F (Bn bF F rfl rfl rfl (i_ne (by rw [he]; simp))) fun A F => ?_
  refine Nl kk (condF F rfl (wp_skip (hK2 _ _ (Sp fun _ kk => ?_))))
  iterate 4 (refine Av F ?_; intro A F)
  refine Zw F (Dc if_41 F H (ccmp_c (Wd.lo da) (Wd.lo db) _)) fun A w F H => ?_
  refine Av F fun A F => ?_
  refine Nl kk (wp_ret ?_)
  try dsimp only [Exit.then, Exit.inBlock, Exit.jump]
  refine ret1 F Tryz.results16 (res_tmp F rfl) ⟨?_, H.below⟩
  rw [← Wd.cmp_lo da db he]
 ·skip
  refine Sx.seq fun K5 hK5 => Sp fun _ kk => ?_
  iterate 4 (refine Av F ?_; intro A F)
  refine Zv F (Bn bT F rfl rfl rfl (i_ne (bne_iff_ne.2 (by omega)))) fun A F => ?_
  refine Nl kk (condT F rfl (Sp fun _ kk => ?_))
  iterate 4 (refine Av F ?_; intro A F)
  refine Zw F (Dc if_41 F H (ccmp_c (Wd.hi da) (Wd.hi db) _)) fun A w F H => ?_
  refine Av F fun A F => ?_
  refine Nl kk (wp_ret ?_)
  try dsimp only [Exit.then, Exit.inBlock, Exit.jump]
  refine ret1 F Tryz.results16 (res_tmp F rfl) ⟨?_, H.below⟩
  rw [← Wd.cmp_hi da db he]
open Sx in
theorem blen_c (x : BitVec 64) (w0 : World) : Calls Tryz.prog 156 #[uN x] w0 fun e w' => e = .returned (iI (Ln.len64 x)) ∧ Below w0.heap.size w0 w' := by
 refine En Tryz.func156 Tryz.ntmps156 fun A F => ?_
 have H := Sx.Own.start w0
 refine Sp fun _ kk => Av F fun A F => ?_
 refine Nl kk (Sx.seq fun K2 hK2 => Sp fun _ kk => Av F fun A F => ?_)
 refine Zv F (Bn (.bool (decide ((x.toNat : Int) ≥ 4294967296))) F rfl rfl rfl (i_ge rfl)) fun A F => ?_
 refine Nl kk ?_
 refine wp_cond_split (F.ev (x := _) rfl) (fun hc => ?_) (fun hc => ?_)
 ·skip
  have hw1 := of_decide_eq_true hc; clear hc
  refine Sp fun _ kk => Av F fun A F => ?_
  refine Zv F (Bn (uN (x >>> 32)) F rfl rfl rfl (i_shr64 x 32 (by decide) _)) fun A F => ?_
  refine Av F fun A F => ?_
  refine Nl kk (Sx.plain ?_)
  refine Av F fun A F => ?_
  refine Sx.nil (hK2 _ _ (Sx.seq fun K5 hK5 => Sp fun _ kk => Av F fun A F => ?_))
  refine Zv F (Bn (.bool (decide (((x >>> 32).toNat : Int) ≥ 65536))) F rfl rfl rfl (i_ge rfl)) fun A F => ?_
  refine Nl kk ?_
  refine wp_cond_split (F.ev (x := _) rfl) (fun hc => ?_) (fun hc => ?_)
  ·skip
   have hw2 := of_decide_eq_true hc; clear hc
   refine Sp fun _ kk => Av F fun A F => ?_
   refine Zv F (Bn (uN ((x >>> 32) >>> 16)) F rfl rfl rfl (i_shr64 (x >>> 32) 16 (by decide) _)) fun A F => ?_
   refine Av F fun A F => ?_
   refine Nl kk (Sx.plain ?_)
   refine Av F fun A F => ?_
   refine Zv F (Bn (iI 48) F rfl rfl rfl (i_addS (by decide))) fun A F => ?_
   refine Av F fun A F => ?_
   refine Sx.nil (hK5 _ _ (Sx.seq fun K8 hK8 => Sp fun _ kk => Av F fun A F => ?_))
   refine Zv F (Bn (.bool (decide ((((x >>> 32) >>> 16).toNat : Int) ≥ 256))) F rfl rfl rfl (i_ge rfl)) fun A F => ?_
   refine Nl kk ?_
   refine wp_cond_split (F.ev (x := _) rfl) (fun hc => ?_) (fun hc => ?_)
   ·skip
    have hw3 := of_decide_eq_true hc; clear hc
    refine Sp fun _ kk => Av F fun A F => ?_
    refine Zv F (Bn (uN (((x >>> 32) >>> 16) >>> 8)) F rfl rfl rfl (i_shr64 ((x >>> 32) >>> 16) 8 (by decide) _)) fun A F => ?_
    refine Av F fun A F => ?_
    refine Nl kk (Sx.plain ?_)
    refine Av F fun A F => ?_
    refine Zv F (Bn (iI 56) F rfl rfl rfl (i_addS (by decide))) fun A F => ?_
    refine Av F fun A F => ?_
    refine Sx.nil (hK8 _ _ (Sp fun _ kk => ?_))
    iterate 2 (refine Av F ?_; intro A F)
    refine Zv F (d_conv (v := iB ((((x >>> 32) >>> 16) >>> 8).toNat % 256 : Nat)) F rfl rfl (c_u64_u8 (((x >>> 32) >>> 16) >>> 8) _ rfl)) fun A F => ?_
    refine Zv F (d_index (v := iB (Ln.l8 ((((x >>> 32) >>> 16) >>> 8).toNat % 256))) F rfl rfl rfl (Sx.run_index_str (s := Ln.tab8) (k := (((x >>> 32) >>> 16) >>> 8).toNat % 256) Sx.undStr (Ln.tab _ (Nat.mod_lt _ (by decide))))) fun A F => ?_
    refine Zv F (d_conv (v := iI (Ln.l8 ((((x >>> 32) >>> 16) >>> 8).toNat % 256))) F rfl rfl (c_u8_i64 _ (by have := (Ln.l8s ⟨(((x >>> 32) >>> 16) >>> 8).toNat % 256, Nat.mod_lt _ (by decide)⟩).1; dsimp only at this; omega))) fun A F => ?_
    refine Zv F (Bn (iI (56 + Ln.l8 ((((x >>> 32) >>> 16) >>> 8).toNat % 256) : Nat)) F rfl rfl rfl (i_addN rfl (in_i64 _ (by have := (Ln.l8s ⟨(((x >>> 32) >>> 16) >>> 8).toNat % 256, Nat.mod_lt _ (by decide)⟩).1; dsimp only at this; omega)))) fun A F => ?_
    refine Av F fun A F => ?_
    refine Nl kk (wp_ret ?_)
    try dsimp only [Exit.then, Exit.inBlock, Exit.jump]
    refine ret1 F Tryz.results156 (res_tmp F rfl) ⟨?_, H.below⟩
    rw [show (((x >>> 32) >>> 16) >>> 8).toNat = x.toNat / 2 ^ 56 from by first | (simp; done) | (simp only [BitVec.toNat_ushiftRight, Nat.shiftRight_eq_div_pow] <;> omega)]; have ho : x.toNat < 18446744073709551616 := x.isLt; (try simp only [BitVec.toNat_ushiftRight, Nat.shiftRight_eq_div_pow] at *); rw [Ln.way x 56 _ rfl (by decide) (by omega) (by omega)]
   ·skip
    have hw4 := of_decide_eq_false hc; clear hc
    refine wp_skip (hK8 _ _ (Sp fun _ kk => ?_))
    iterate 2 (refine Av F ?_; intro A F)
    refine Zv F (d_conv (v := iB (((x >>> 32) >>> 16).toNat % 256 : Nat)) F rfl rfl (c_u64_u8 ((x >>> 32) >>> 16) _ rfl)) fun A F => ?_
    refine Zv F (d_index (v := iB (Ln.l8 (((x >>> 32) >>> 16).toNat % 256))) F rfl rfl rfl (Sx.run_index_str (s := Ln.tab8) (k := ((x >>> 32) >>> 16).toNat % 256) Sx.undStr (Ln.tab _ (Nat.mod_lt _ (by decide))))) fun A F => ?_
    refine Zv F (d_conv (v := iI (Ln.l8 (((x >>> 32) >>> 16).toNat % 256))) F rfl rfl (c_u8_i64 _ (by have := (Ln.l8s ⟨((x >>> 32) >>> 16).toNat % 256, Nat.mod_lt _ (by decide)⟩).1; dsimp only at this; omega))) fun A F => ?_
    refine Zv F (Bn (iI (48 + Ln.l8 (((x >>> 32) >>> 16).toNat % 256) : Nat)) F rfl rfl rfl (i_addN rfl (in_i64 _ (by have := (Ln.l8s ⟨((x >>> 32) >>> 16).toNat % 256, Nat.mod_lt _ (by decide)⟩).1; dsimp only at this; omega)))) fun A F => ?_
    refine Av F fun A F => ?_
    refine Nl kk (wp_ret ?_)
    try dsimp only [Exit.then, Exit.inBlock, Exit.jump]
    refine ret1 F Tryz.results156 (res_tmp F rfl) ⟨?_, H.below⟩
    rw [show ((x >>> 32) >>> 16).toNat = x.toNat / 2 ^ 48 from by first | (simp; done) | (simp only [BitVec.toNat_ushiftRight, Nat.shiftRight_eq_div_pow] <;> omega)]; have ho : x.toNat < 18446744073709551616 := x.isLt; (try simp only [BitVec.toNat_ushiftRight, Nat.shiftRight_eq_div_pow] at *); rw [Ln.way x 48 _ rfl (by decide) (by omega) (by omega)]
  ·skip
   have hw5 := of_decide_eq_false hc; clear hc
   refine wp_skip (hK5 _ _ (Sx.seq fun K13 hK13 => Sp fun _ kk => Av F fun A F => ?_))
   refine Zv F (Bn (.bool (decide (((x >>> 32).toNat : Int) ≥ 256))) F rfl rfl rfl (i_ge rfl)) fun A F => ?_
   refine Nl kk ?_
   refine wp_cond_split (F.ev (x := _) rfl) (fun hc => ?_) (fun hc => ?_)
   ·skip
    have hw6 := of_decide_eq_true hc; clear hc
    refine Sp fun _ kk => Av F fun A F => ?_
    refine Zv F (Bn (uN ((x >>> 32) >>> 8)) F rfl rfl rfl (i_shr64 (x >>> 32) 8 (by decide) _)) fun A F => ?_
    refine Av F fun A F => ?_
    refine Nl kk (Sx.plain ?_)
    refine Av F fun A F => ?_
    refine Zv F (Bn (iI 40) F rfl rfl rfl (i_addS (by decide))) fun A F => ?_
    refine Av F fun A F => ?_
    refine Sx.nil (hK13 _ _ (Sp fun _ kk => ?_))
    iterate 2 (refine Av F ?_; intro A F)
    refine Zv F (d_conv (v := iB (((x >>> 32) >>> 8).toNat % 256 : Nat)) F rfl rfl (c_u64_u8 ((x >>> 32) >>> 8) _ rfl)) fun A F => ?_
    refine Zv F (d_index (v := iB (Ln.l8 (((x >>> 32) >>> 8).toNat % 256))) F rfl rfl rfl (Sx.run_index_str (s := Ln.tab8) (k := ((x >>> 32) >>> 8).toNat % 256) Sx.undStr (Ln.tab _ (Nat.mod_lt _ (by decide))))) fun A F => ?_
    refine Zv F (d_conv (v := iI (Ln.l8 (((x >>> 32) >>> 8).toNat % 256))) F rfl rfl (c_u8_i64 _ (by have := (Ln.l8s ⟨((x >>> 32) >>> 8).toNat % 256, Nat.mod_lt _ (by decide)⟩).1; dsimp only at this; omega))) fun A F => ?_
    refine Zv F (Bn (iI (40 + Ln.l8 (((x >>> 32) >>> 8).toNat % 256) : Nat)) F rfl rfl rfl (i_addN rfl (in_i64 _ (by have := (Ln.l8s ⟨((x >>> 32) >>> 8).toNat % 256, Nat.mod_lt _ (by decide)⟩).1; dsimp only at this; omega)))) fun A F => ?_
    refine Av F fun A F => ?_
    refine Nl kk (wp_ret ?_)
    try dsimp only [Exit.then, Exit.inBlock, Exit.jump]
    refine ret1 F Tryz.results156 (res_tmp F rfl) ⟨?_, H.below⟩
    rw [show ((x >>> 32) >>> 8).toNat = x.toNat / 2 ^ 40 from by first | (simp; done) | (simp only [BitVec.toNat_ushiftRight, Nat.shiftRight_eq_div_pow] <;> omega)]; have ho : x.toNat < 18446744073709551616 := x.isLt; (try simp only [BitVec.toNat_ushiftRight, Nat.shiftRight_eq_div_pow] at *); rw [Ln.way x 40 _ rfl (by decide) (by omega) (by omega)]
   ·skip
    have hw7 := of_decide_eq_false hc; clear hc
    refine wp_skip (hK13 _ _ (Sp fun _ kk => ?_))
    iterate 2 (refine Av F ?_; intro A F)
    refine Zv F (d_conv (v := iB ((x >>> 32).toNat % 256 : Nat)) F rfl rfl (c_u64_u8 (x >>> 32) _ rfl)) fun A F => ?_
    refine Zv F (d_index (v := iB (Ln.l8 ((x >>> 32).toNat % 256))) F rfl rfl rfl (Sx.run_index_str (s := Ln.tab8) (k := (x >>> 32).toNat % 256) Sx.undStr (Ln.tab _ (Nat.mod_lt _ (by decide))))) fun A F => ?_
    refine Zv F (d_conv (v := iI (Ln.l8 ((x >>> 32).toNat % 256))) F rfl rfl (c_u8_i64 _ (by have := (Ln.l8s ⟨(x >>> 32).toNat % 256, Nat.mod_lt _ (by decide)⟩).1; dsimp only at this; omega))) fun A F => ?_
    refine Zv F (Bn (iI (32 + Ln.l8 ((x >>> 32).toNat % 256) : Nat)) F rfl rfl rfl (i_addN rfl (in_i64 _ (by have := (Ln.l8s ⟨(x >>> 32).toNat % 256, Nat.mod_lt _ (by decide)⟩).1; dsimp only at this; omega)))) fun A F => ?_
    refine Av F fun A F => ?_
    refine Nl kk (wp_ret ?_)
    try dsimp only [Exit.then, Exit.inBlock, Exit.jump]
    refine ret1 F Tryz.results156 (res_tmp F rfl) ⟨?_, H.below⟩
    rw [show (x >>> 32).toNat = x.toNat / 2 ^ 32 from by first | (simp; done) | (simp only [BitVec.toNat_ushiftRight, Nat.shiftRight_eq_div_pow] <;> omega)]; have ho : x.toNat < 18446744073709551616 := x.isLt; (try simp only [BitVec.toNat_ushiftRight, Nat.shiftRight_eq_div_pow] at *); rw [Ln.way x 32 _ rfl (by decide) (by omega) (by omega)]
 ·skip
  have hw8 := of_decide_eq_false hc; clear hc
  refine wp_skip (hK2 _ _ (Sx.seq fun K18 hK18 => Sp fun _ kk => Av F fun A F => ?_))
  refine Zv F (Bn (.bool (decide ((x.toNat : Int) ≥ 65536))) F rfl rfl rfl (i_ge rfl)) fun A F => ?_
  refine Nl kk ?_
  refine wp_cond_split (F.ev (x := _) rfl) (fun hc => ?_) (fun hc => ?_)
  ·skip
   have hw9 := of_decide_eq_true hc; clear hc
   refine Sp fun _ kk => Av F fun A F => ?_
   refine Zv F (Bn (uN (x >>> 16)) F rfl rfl rfl (i_shr64 x 16 (by decide) _)) fun A F => ?_
   refine Av F fun A F => ?_
   refine Nl kk (Sx.plain ?_)
   refine Av F fun A F => ?_
   refine Zv F (Bn (iI 16) F rfl rfl rfl (i_addS (by decide))) fun A F => ?_
   refine Av F fun A F => ?_
   refine Sx.nil (hK18 _ _ (Sx.seq fun K21 hK21 => Sp fun _ kk => Av F fun A F => ?_))
   refine Zv F (Bn (.bool (decide (((x >>> 16).toNat : Int) ≥ 256))) F rfl rfl rfl (i_ge rfl)) fun A F => ?_
   refine Nl kk ?_
   refine wp_cond_split (F.ev (x := _) rfl) (fun hc => ?_) (fun hc => ?_)
   ·skip
    have hw10 := of_decide_eq_true hc; clear hc
    refine Sp fun _ kk => Av F fun A F => ?_
    refine Zv F (Bn (uN ((x >>> 16) >>> 8)) F rfl rfl rfl (i_shr64 (x >>> 16) 8 (by decide) _)) fun A F => ?_
    refine Av F fun A F => ?_
    refine Nl kk (Sx.plain ?_)
    refine Av F fun A F => ?_
    refine Zv F (Bn (iI 24) F rfl rfl rfl (i_addS (by decide))) fun A F => ?_
    refine Av F fun A F => ?_
    refine Sx.nil (hK21 _ _ (Sp fun _ kk => ?_))
    iterate 2 (refine Av F ?_; intro A F)
    refine Zv F (d_conv (v := iB (((x >>> 16) >>> 8).toNat % 256 : Nat)) F rfl rfl (c_u64_u8 ((x >>> 16) >>> 8) _ rfl)) fun A F => ?_
    refine Zv F (d_index (v := iB (Ln.l8 (((x >>> 16) >>> 8).toNat % 256))) F rfl rfl rfl (Sx.run_index_str (s := Ln.tab8) (k := ((x >>> 16) >>> 8).toNat % 256) Sx.undStr (Ln.tab _ (Nat.mod_lt _ (by decide))))) fun A F => ?_
    refine Zv F (d_conv (v := iI (Ln.l8 (((x >>> 16) >>> 8).toNat % 256))) F rfl rfl (c_u8_i64 _ (by have := (Ln.l8s ⟨((x >>> 16) >>> 8).toNat % 256, Nat.mod_lt _ (by decide)⟩).1; dsimp only at this; omega))) fun A F => ?_
    refine Zv F (Bn (iI (24 + Ln.l8 (((x >>> 16) >>> 8).toNat % 256) : Nat)) F rfl rfl rfl (i_addN rfl (in_i64 _ (by have := (Ln.l8s ⟨((x >>> 16) >>> 8).toNat % 256, Nat.mod_lt _ (by decide)⟩).1; dsimp only at this; omega)))) fun A F => ?_
    refine Av F fun A F => ?_
    refine Nl kk (wp_ret ?_)
    try dsimp only [Exit.then, Exit.inBlock, Exit.jump]
    refine ret1 F Tryz.results156 (res_tmp F rfl) ⟨?_, H.below⟩
    rw [show ((x >>> 16) >>> 8).toNat = x.toNat / 2 ^ 24 from by first | (simp; done) | (simp only [BitVec.toNat_ushiftRight, Nat.shiftRight_eq_div_pow] <;> omega)]; have ho : x.toNat < 18446744073709551616 := x.isLt; (try simp only [BitVec.toNat_ushiftRight, Nat.shiftRight_eq_div_pow] at *); rw [Ln.way x 24 _ rfl (by decide) (by omega) (by omega)]
   ·skip
    have hw11 := of_decide_eq_false hc; clear hc
    refine wp_skip (hK21 _ _ (Sp fun _ kk => ?_))
    iterate 2 (refine Av F ?_; intro A F)
    refine Zv F (d_conv (v := iB ((x >>> 16).toNat % 256 : Nat)) F rfl rfl (c_u64_u8 (x >>> 16) _ rfl)) fun A F => ?_
    refine Zv F (d_index (v := iB (Ln.l8 ((x >>> 16).toNat % 256))) F rfl rfl rfl (Sx.run_index_str (s := Ln.tab8) (k := (x >>> 16).toNat % 256) Sx.undStr (Ln.tab _ (Nat.mod_lt _ (by decide))))) fun A F => ?_
    refine Zv F (d_conv (v := iI (Ln.l8 ((x >>> 16).toNat % 256))) F rfl rfl (c_u8_i64 _ (by have := (Ln.l8s ⟨(x >>> 16).toNat % 256, Nat.mod_lt _ (by decide)⟩).1; dsimp only at this; omega))) fun A F => ?_
    refine Zv F (Bn (iI (16 + Ln.l8 ((x >>> 16).toNat % 256) : Nat)) F rfl rfl rfl (i_addN rfl (in_i64 _ (by have := (Ln.l8s ⟨(x >>> 16).toNat % 256, Nat.mod_lt _ (by decide)⟩).1; dsimp only at this; omega)))) fun A F => ?_
    refine Av F fun A F => ?_
    refine Nl kk (wp_ret ?_)
    try dsimp only [Exit.then, Exit.inBlock, Exit.jump]
    refine ret1 F Tryz.results156 (res_tmp F rfl) ⟨?_, H.below⟩
    rw [show (x >>> 16).toNat = x.toNat / 2 ^ 16 from by first | (simp; done) | (simp only [BitVec.toNat_ushiftRight, Nat.shiftRight_eq_div_pow] <;> omega)]; have ho : x.toNat < 18446744073709551616 := x.isLt; (try simp only [BitVec.toNat_ushiftRight, Nat.shiftRight_eq_div_pow] at *); rw [Ln.way x 16 _ rfl (by decide) (by omega) (by omega)]
  ·skip
   have hw12 := of_decide_eq_false hc; clear hc
   refine wp_skip (hK18 _ _ (Sx.seq fun K26 hK26 => Sp fun _ kk => Av F fun A F => ?_))
   refine Zv F (Bn (.bool (decide ((x.toNat : Int) ≥ 256))) F rfl rfl rfl (i_ge rfl)) fun A F => ?_
   refine Nl kk ?_
   refine wp_cond_split (F.ev (x := _) rfl) (fun hc => ?_) (fun hc => ?_)
   ·skip
    have hw13 := of_decide_eq_true hc; clear hc
    refine Sp fun _ kk => Av F fun A F => ?_
    refine Zv F (Bn (uN (x >>> 8)) F rfl rfl rfl (i_shr64 x 8 (by decide) _)) fun A F => ?_
    refine Av F fun A F => ?_
    refine Nl kk (Sx.plain ?_)
    refine Av F fun A F => ?_
    refine Zv F (Bn (iI 8) F rfl rfl rfl (i_addS (by decide))) fun A F => ?_
    refine Av F fun A F => ?_
    refine Sx.nil (hK26 _ _ (Sp fun _ kk => ?_))
    iterate 2 (refine Av F ?_; intro A F)
    refine Zv F (d_conv (v := iB ((x >>> 8).toNat % 256 : Nat)) F rfl rfl (c_u64_u8 (x >>> 8) _ rfl)) fun A F => ?_
    refine Zv F (d_index (v := iB (Ln.l8 ((x >>> 8).toNat % 256))) F rfl rfl rfl (Sx.run_index_str (s := Ln.tab8) (k := (x >>> 8).toNat % 256) Sx.undStr (Ln.tab _ (Nat.mod_lt _ (by decide))))) fun A F => ?_
    refine Zv F (d_conv (v := iI (Ln.l8 ((x >>> 8).toNat % 256))) F rfl rfl (c_u8_i64 _ (by have := (Ln.l8s ⟨(x >>> 8).toNat % 256, Nat.mod_lt _ (by decide)⟩).1; dsimp only at this; omega))) fun A F => ?_
    refine Zv F (Bn (iI (8 + Ln.l8 ((x >>> 8).toNat % 256) : Nat)) F rfl rfl rfl (i_addN rfl (in_i64 _ (by have := (Ln.l8s ⟨(x >>> 8).toNat % 256, Nat.mod_lt _ (by decide)⟩).1; dsimp only at this; omega)))) fun A F => ?_
    refine Av F fun A F => ?_
    refine Nl kk (wp_ret ?_)
    try dsimp only [Exit.then, Exit.inBlock, Exit.jump]
    refine ret1 F Tryz.results156 (res_tmp F rfl) ⟨?_, H.below⟩
    rw [show (x >>> 8).toNat = x.toNat / 2 ^ 8 from by first | (simp; done) | (simp only [BitVec.toNat_ushiftRight, Nat.shiftRight_eq_div_pow] <;> omega)]; have ho : x.toNat < 18446744073709551616 := x.isLt; (try simp only [BitVec.toNat_ushiftRight, Nat.shiftRight_eq_div_pow] at *); rw [Ln.way x 8 _ rfl (by decide) (by omega) (by omega)]
   ·skip
    have hw14 := of_decide_eq_false hc; clear hc
    refine wp_skip (hK26 _ _ (Sp fun _ kk => ?_))
    iterate 2 (refine Av F ?_; intro A F)
    refine Zv F (d_conv (v := iB (x.toNat % 256 : Nat)) F rfl rfl (c_u64_u8 x _ rfl)) fun A F => ?_
    refine Zv F (d_index (v := iB (Ln.l8 (x.toNat % 256))) F rfl rfl rfl (Sx.run_index_str (s := Ln.tab8) (k := x.toNat % 256) Sx.undStr (Ln.tab _ (Nat.mod_lt _ (by decide))))) fun A F => ?_
    refine Zv F (d_conv (v := iI (Ln.l8 (x.toNat % 256))) F rfl rfl (c_u8_i64 _ (by have := (Ln.l8s ⟨x.toNat % 256, Nat.mod_lt _ (by decide)⟩).1; dsimp only at this; omega))) fun A F => ?_
    refine Zv F (Bn (iI (0 + Ln.l8 (x.toNat % 256) : Nat)) F rfl rfl rfl (i_addN rfl (in_i64 _ (by have := (Ln.l8s ⟨x.toNat % 256, Nat.mod_lt _ (by decide)⟩).1; dsimp only at this; omega)))) fun A F => ?_
    refine Av F fun A F => ?_
    refine Nl kk (wp_ret ?_)
    try dsimp only [Exit.then, Exit.inBlock, Exit.jump]
    refine ret1 F Tryz.results156 (res_tmp F rfl) ⟨?_, H.below⟩
    rw [show x.toNat = x.toNat / 2 ^ 0 from by first | (simp; done) | (simp only [BitVec.toNat_ushiftRight, Nat.shiftRight_eq_div_pow] <;> omega)]; have ho : x.toNat < 18446744073709551616 := x.isLt; (try simp only [BitVec.toNat_ushiftRight, Nat.shiftRight_eq_div_pow] at *); rw [Ln.way x 0 _ rfl (by decide) (by omega) (by omega)]
section
namespace Gf
def cells (l : List (BitVec 64)) : List Value := l.map fun x => .int .u64 (x.toNat : Nat)
theorem cells_len (l : List (BitVec 64)) : (cells l).length = l.length := List.length_map ..
theorem cells_at {l : List (BitVec 64)} {k : Nat} {x : BitVec 64} (h : l[k]? = some x) : (cells l)[k]? = some (.int .u64 (x.toNat : Nat)) := by unfold cells; rw [List.getElem?_map, h]; rfl
theorem cells_set (l : List (BitVec 64)) (k : Nat) (x : BitVec 64) : (cells l).set k (.int .u64 (x.toNat : Nat)) = cells (l.set k x) := by unfold cells; rw [List.map_set]
theorem cells_rep (n : Nat) : List.replicate n (.int .u64 0) = cells (List.replicate n 0#64) := by unfold cells; rw [List.map_replicate]; rfl
theorem cells_ones : ∀ l, Sx.ones (cells l) = true
  | [] => rfl
  | _ :: l => cells_ones l
theorem deg_bd {p n : Nat} (h : p < 2 ^ n) : -1 ≤ deg p ∧ deg p < n + 1 := by
  unfold deg
  by_cases h0 : p = 0
  · rw [if_pos h0]; omega
  · rw [if_neg h0]
    have := (Nat.log2_lt h0).2 h
    omega
theorem deg_pos {p : Nat} (h : p ≠ 0) : 0 ≤ deg p := by unfold deg; rw [if_neg h]; omega
theorem lt_of_len {l : List (BitVec 64)} {n : Nat} (h : l.length ≤ n) : val l < 2 ^ (64 * n) := by
  have h1 := lt_len (val l)
  have h2 : (ws (val l)).length ≤ l.length := by
    refine ws_len_le ?_
    clear h1
    clear h
    induction l with
    | nil => exact Nat.one_pos
    | cons x l ih =>
      show 2 ^ 64 * val l + x.toNat < _
      have := x.isLt
      rw [List.length_cons, Nat.mul_add, Nat.mul_one, Nat.pow_add, Nat.mul_comm (2 ^ (64 * l.length))]
      have h : 2 ^ 64 * (val l + 1) ≤ 2 ^ 64 * 2 ^ (64 * l.length) := Nat.mul_le_mul_left _ ih
      omega
  exact Nat.lt_of_lt_of_le h1 (Nat.pow_le_pow_right (by decide) (by omega))
theorem one_shl_lt {n m : Nat} (h : n < m) : 1 <<< n < 2 ^ m := by rw [Nat.one_shiftLeft]; exact Nat.pow_lt_pow_right (by decide) h
theorem log2_bd {p n : Nat} (h0 : p ≠ 0) (h : p < 2 ^ n) : p.log2 < n := (Nat.log2_lt h0).2 h
theorem deg_diff {r q : Nat} (h : q ≠ 0 ∧ r ≠ 0 ∧ q.log2 ≤ r.log2) : deg r - deg q = ((r.log2 - q.log2 : Nat) : Int) := by
  unfold deg; rw [if_neg h.1, if_neg h.2.1]; have := h.2.2; omega
theorem dm_eq {a p r q : Nat} (h : dm a p 0 = dm r p q) (hd : ¬ (p ≠ 0 ∧ r ≠ 0 ∧ p.log2 ≤ r.log2)) : md a p = r := by unfold md; rw [h, dm_end q hd]
theorem red_small {r p n : Nat} (hd : p ≠ 0 ∧ r ≠ 0 ∧ p.log2 ≤ r.log2) (h : r < 2 ^ n) : r ^^^ p <<< (r.log2 - p.log2) < 2 ^ n := Nat.lt_trans (red_lt' hd.1 hd.2.1 hd.2.2) h
def lim (n : Nat) : Nat := 2 ^ (64 * n)
theorem lim_pos (n : Nat) : 0 < lim n := Nat.pow_pos (by decide)
theorem lim_le {m n : Nat} (h : m ≤ n) : lim m ≤ lim n := Nat.pow_le_pow_right (by decide) (by omega)
theorem lim_len {p n : Nat} (h : p < lim n) : (ws p).length ≤ n := ws_len_le h
theorem len_lim {l : List (BitVec 64)} {n : Nat} (h : l.length ≤ n) : val l < lim n := lt_of_len h
theorem lim_deg {p n : Nat} (h : p < lim n) : -1 ≤ deg p ∧ deg p < 64 * n + 1 := by
  have := deg_bd h
  omega
theorem lim_one {n m : Nat} (h : n < 64 * m) : 1 <<< n < lim m := one_shl_lt h
theorem lim_xor {p q n : Nat} (hp : p < lim n) (hq : q < lim n) : p ^^^ q < lim n := Nat.xor_lt_two_pow hp hq
theorem lim_log {p n : Nat} (h0 : p ≠ 0) (h : p < lim n) : p.log2 < 64 * n := log2_bd h0 h
theorem lim_shl {p n m k : Nat} (h : p < lim m) (hn : n ≤ 64 * k) : p <<< n < lim (m + k) := by
  rw [Nat.shiftLeft_eq]
  refine Nat.lt_of_lt_of_le (Nat.mul_lt_mul_of_lt_of_le h (Nat.pow_le_pow_right (by decide) hn) (Nat.pow_pos (by decide))) ?_
  unfold lim
  rw [← Nat.pow_add, Nat.mul_add]
  exact Nat.le_refl _
theorem lim_red {r p n : Nat} (hd : p ≠ 0 ∧ r ≠ 0 ∧ p.log2 ≤ r.log2) (h : r < lim n) : r ^^^ p <<< (r.log2 - p.log2) < lim n := red_small hd h
theorem lim_md {p n : Nat} (hp : p ≠ 0) (h : p < lim n) (a : Nat) : md a p < lim n := Nat.lt_of_lt_of_le (md_lt hp a) (Nat.le_trans ((Nat.le_log2 hp).1 (Nat.le_refl _)) (Nat.le_of_lt h))
theorem clm_lt {a b m : Nat} (ha : a < 2 ^ m) : ∀ {n}, b < 2 ^ n → clm a b < 2 ^ (m + n) := by
  intro n
  induction n generalizing b with
  | zero => intro hb; rw [show b = 0 from by omega, clm_zero]; exact Nat.pow_pos (by decide)
  | succ n ih =>
    intro hb
    rw [clm_eq]
    refine Nat.xor_lt_two_pow ?_ ?_
    · split
      · exact Nat.lt_of_lt_of_le ha (Nat.pow_le_pow_right (by decide) (by omega))
      · exact Nat.pow_pos (by decide)
    · have := ih (b := b / 2) (by rw [Nat.pow_succ] at hb; omega)
      rw [Nat.shiftLeft_eq, show 2 ^ (m + (n + 1)) = 2 ^ (m + n) * 2 from Nat.pow_succ .., show (2 : Nat) ^ 1 = 2 from rfl]
      omega
theorem lim_clm {a b m n : Nat} (ha : a < lim m) (hb : b < lim n) : clm a b < lim (m + n) := by
  have := clm_lt ha hb
  unfold lim
  rw [Nat.mul_add]; exact this
theorem cells_get {l : List (BitVec 64)} {k : Nat} {u : Value} (h : (cells l)[k]? = some u) : ∃ x, l[k]? = some x ∧ u = .int .u64 (x.toNat : Nat) := by
  unfold cells at h
  rw [List.getElem?_map] at h
  cases hx : l[k]? with
  | none => rw [hx] at h; cases h
  | some x => rw [hx] at h; cases h; exact ⟨x, rfl, rfl⟩
def Rd (w : World) (v : Value) (l : List (BitVec 64)) : Prop := l.length ≤ 900000 ∧ ((v = .slice none 0 0 ∧ l = []) ∨ ∃ g o cap, v = .slice (some ⟨g, o, none⟩) l.length cap ∧ l.length ≤ cap ∧ ∀ k x, l[k]? = some x → w.cell? ⟨g, o + k, none⟩ = some (.int .u64 (x.toNat : Nat)))
theorem Rd.few {w : World} {v : Value} {l : List (BitVec 64)} (h : Rd w v l) : l.length ≤ 900000 := h.1
theorem Rd.form {w : World} {v : Value} {l : List (BitVec 64)} (h : Rd w v l) : ∃ ad cap, v = .slice ad l.length cap := by
  rcases h.2 with ⟨rfl, rfl⟩ | ⟨g, o, cap, rfl, _⟩
  · exact ⟨none, 0, rfl⟩
  · exact ⟨_, cap, rfl⟩
theorem Rd.at {w : World} {ad : Option Addr} {cap m : Nat} {l : List (BitVec 64)} (h : Rd w (.slice ad m cap) l) : ∀ k x, l[k]? = some x → ∃ g o, ad = some ⟨g, o, none⟩ ∧ w.cell? ⟨g, o + k, none⟩ = some (.int .u64 (x.toNat : Nat)) := by
  intro k x hk
  rcases h.2 with ⟨_, rfl⟩ | ⟨g, o, cap, e, _, hc⟩
  · simp at hk
  · cases e; exact ⟨g, o, rfl, hc k x hk⟩
theorem Rd.below {w w' : World} {v : Value} {l : List (BitVec 64)} (h : Rd w v l) (hb : Below w.heap.size w w') : Rd w' v l := by
  obtain ⟨h1, h2⟩ := h
  refine ⟨h1, h2.imp id ?_⟩
  rintro ⟨g, o, cap, hv, hl, hc⟩
  exact ⟨g, o, cap, hv, hl, fun k x hk => keep_cell hb _ _ (hc k x hk)⟩
theorem Rd.row {w : World} {lo : Nat} {E : TypeId} {v : Value} {l : List (BitVec 64)} {n : Nat} {xs : List Value} (h : w.ownsRow lo E 1 v n xs) (hn : n = l.length) (hx : xs = cells l) (hl : l.length ≤ 900000) : Rd w v l := by
  subst hn; subst hx
  refine ⟨hl, ?_⟩
  rcases row_form h with ⟨rfl, h0⟩ | ⟨g, cap, rfl, h1, h2, h3, h4, hc⟩
  · exact .inl ⟨rfl, List.length_eq_zero_iff.1 h0⟩
  · exact .inr ⟨g, 0, cap, rfl, h3, fun k x hk => by rw [Nat.zero_add, hc k ((List.getElem?_eq_some_iff.1 hk).1), cells_at hk]⟩
theorem Rd.nil (w : World) : Rd w (.slice none 0 0) [] := ⟨by decide, .inl ⟨rfl, rfl⟩⟩
theorem Rd.take {w : World} {g o len cap : Nat} {l : List (BitVec 64)} (h : Rd w (.slice (some ⟨g, o, none⟩) len cap) l) (m : Nat) (hm : m ≤ l.length) : Rd w (.slice (some ⟨g, o, none⟩) m cap) (l.take m) := by
  obtain ⟨h1, h2⟩ := h
  have hl : (l.take m).length = m := by rw [List.length_take]; omega
  rcases h2 with ⟨e, _⟩ | ⟨g', o', cap', e, h3, hc⟩
  · cases e
  · cases e
    refine ⟨by omega, .inr ⟨_, _, _, by rw [hl], by omega, fun k x hk => hc k x ?_⟩⟩
    rw [List.getElem?_take] at hk
    split at hk
    · exact hk
    · cases hk
theorem Rd.cut {w : World} {ad : Option Addr} {m cap : Nat} {l : List (BitVec 64)} (h : Rd w (.slice ad m cap) l) (k : Nat) (hk : k ≤ l.length) : Rd w (.slice ad k cap) (l.take k) := by
  rcases h.2 with ⟨e, rfl⟩ | ⟨g, o, cap', e, _, _⟩
  · have : k = 0 := by simpa using hk
    subst this; cases e; exact Rd.nil w
  · cases e; exact h.take k hk
theorem getD_of {l : List (BitVec 64)} {k : Nat} {x : BitVec 64} (h : l[k]? = some x) : l.getD k 0#64 = x := by rw [List.getD_eq_getElem?_getD, h]; rfl
theorem zero_down {l : List (BitVec 64)} {q : Nat} {x : BitVec 64} (hz : ∀ k, q ≤ k → l.getD k 0#64 = 0#64) (hx : l[q - 1]? = some x) (h0 : x.toNat = 0) : ∀ k, q - 1 ≤ k → l.getD k 0#64 = 0#64 := by
 intro k hk
 by_cases h : q ≤ k
 ·exact hz k h
 ·rw [show k = q - 1 from by omega, getD_of hx]; exact BitVec.eq_of_toNat_eq h0
theorem some_of {l : List (BitVec 64)} {k : Nat} (h : k < l.length) : ∃ x, l[k]? = some x := ⟨_, List.getElem?_eq_getElem h⟩
theorem ix_of {l : List (BitVec 64)} {k : Nat} {x : BitVec 64} (h : l[k]? = some x) : get l (k : Int) = x := by rw [get_nat, getD_of h]
def fill (f : Nat → BitVec 64) (i n : Nat) : List (BitVec 64) := (List.range n).map fun k => if k < i then f k else 0#64
theorem fill_len (f : Nat → BitVec 64) (i n : Nat) : (fill f i n).length = n := by unfold fill; rw [List.length_map, List.length_range]
theorem fill_at (f : Nat → BitVec 64) (i n k : Nat) : (fill f i n)[k]? = if k < n then some (if k < i then f k else 0#64) else none := by
  unfold fill
  rw [List.getElem?_map]
  by_cases h : k < n
  · rw [if_pos h, List.getElem?_range h]; rfl
  · rw [if_neg h, List.getElem?_eq_none (by rw [List.length_range]; omega)]; rfl
theorem fill_zero (f : Nat → BitVec 64) (n : Nat) : List.replicate n 0#64 = fill f 0 n := by
  apply List.ext_getElem?
  intro k
  rw [fill_at, List.getElem?_replicate, if_neg (Nat.not_lt_zero k)]
theorem fill_set (f : Nat → BitVec 64) {i n : Nat} (h : i < n) : (fill f i n).set i (f i) = fill f (i + 1) n := by
  apply List.ext_getElem?
  intro k
  rw [List.getElem?_set, fill_len, fill_at, fill_at]
  by_cases e : i = k
  · subst e; rw [if_pos rfl, if_pos h, if_pos h, if_pos (Nat.lt_succ_self i)]
  · rw [if_neg e]
    by_cases h' : k < n
    · rw [if_pos h', if_pos h']
      by_cases h2 : k < i
      · rw [if_pos h2, if_pos (by omega)]
      · rw [if_neg h2, if_neg (by omega)]
    · rw [if_neg h', if_neg h']
theorem fill_all (f : Nat → BitVec 64) (n : Nat) : fill f n n = (List.range n).map f := by
  unfold fill
  apply List.map_congr_left
  intro k hk
  rw [List.mem_range] at hk
  rw [if_pos hk]
theorem log2_len (x : BitVec 64) (h : x ≠ 0#64) : Ln.len64 x = x.toNat.log2 + 1 := by
  have h0 : x.toNat ≠ 0 := fun e => h (BitVec.eq_of_toNat_eq e)
  have h1 := (Nat.log2_lt h0).2 x.isLt
  exact Ln.bits_of x _ (by omega) ((Nat.log2_lt h0).1 (Nat.lt_succ_self _)) (.inr (by rw [Nat.add_sub_cancel]; exact (Nat.le_log2 h0).1 (Nat.le_refl _)))
theorem deg_eq {p : Nat} {x : BitVec 64} (hp : p ≠ 0) (hx : (ws p)[(ws p).length - 1]? = some x) : (64 : Int) * (((ws p).length : Int) - 1) + (Ln.len64 x : Int) - 1 = deg p := by
  have hl : (ws p).length ≠ 0 := by rw [ws_pos hp, List.length_cons]; omega
  have h1 := log2_ws hp
  rw [getD_of hx] at h1
  have h2 : x ≠ 0#64 := by
    rcases ws_own p with h | h
    · exact absurd h hl
    · rwa [getD_of hx] at h
  rw [log2_len x h2]
  unfold deg
  rw [if_neg hp]
  omega
theorem own_le (l : List (BitVec 64)) : (ws (val l)).length ≤ l.length := by
  refine ws_len_le ?_
  induction l with
  | nil => exact Nat.one_pos
  | cons x l ih =>
    show 2 ^ 64 * val l + x.toNat < _
    have := x.isLt
    rw [List.length_cons, Nat.mul_add, Nat.mul_one, Nat.pow_add, Nat.mul_comm (2 ^ (64 * l.length))]
    have h : 2 ^ 64 * (val l + 1) ≤ 2 ^ 64 * 2 ^ (64 * l.length) := Nat.mul_le_mul_left _ ih
    omega
theorem len_zero {p : Nat} (h : p ≠ 0) : 0 < (ws p).length := by rw [ws_pos h, List.length_cons]; omega
theorem bit_of (l : List (BitVec 64)) (i : Nat) : ((get l ((i / 64 : Nat) : Int)) >>> (i % 64) &&& 1#64) = if (val l).testBit i then 1#64 else 0#64 := by
  rw [get_nat, val_bit]
  apply BitVec.eq_of_toNat_eq
  rw [BitVec.toNat_and, BitVec.toNat_ushiftRight, show (1#64).toNat = 1 from rfl, Nat.and_one_is_mod]
  generalize (l.getD (i / 64) 0#64).toNat = m
  rw [Nat.testBit, Nat.one_and_eq_mod_two]
  have : m >>> (i % 64) % 2 = 0 ∨ m >>> (i % 64) % 2 = 1 := by omega
  rcases this with h | h
  · rw [h]; rfl
  · rw [h]; rfl
end Gf
namespace Sx
variable {P : Program} {ds : List Deferred} {w0 w : World} {a : Act} {o : Oper} {n : Nat} {kv : List (Nat × Value)} {bs : List Bx} {rs : List Rx} {K : Nat → Option Obj}
theorem d_mkFunc {fn : Fn} {fx cx : Array Operand} {fv cv : List Value} (F : Fr n a kv ds) (ho : o.op = .makeFunc fn fx cx) (hf : fx.toList.map (ev kv) = fv.map some) (hc : cx.toList.map (ev kv) = cv.map some) : Does P o a w (fun y w' => y = .func fn fv.toArray cv.toArray ∧ w' = w) := by
  refine does_run ?_
  unfold execOp; rw [ho]
  have h1 := args_eq F hf
  have h2 := args_eq F hc
  simp only [Instr.makeFunc, h1, h2, Sem.run_bind, Sem.run_pure, Result.andThen_ok]
theorem run_callC {f : FuncId} {c : Operand} {xs : Array Operand} {ts : Array TypeId} {vs fv cv : List Value} (F : Fr n a kv ds) (ho : o.op = .call { callee := .value c, args := xs, argTypes := ts }) (hc : ev kv c = some (.func (.func f) fv.toArray cv.toArray)) (hxs : xs.toList.map (ev kv) = vs.map some) :
    execOp a.eval o = callFunc f (fv ++ vs ++ cv).toArray := by
  unfold execOp; rw [ho]
  simp only [resolve, args_eq F hxs, F.ev hc, Deferred.ofValue]
  show invoke (.fn (.func f) cv.toArray) (fv.toArray ++ vs.toArray) = _
  simp [invoke]
theorem d_callC {f : FuncId} {c : Operand} {xs : Array Operand} {ts : Array TypeId} {vs fv cv : List Value} {v : Value} (hf : isFn P f) (F : Fr n a kv ds) (H : Own w0 w bs rs K) (ho : o.op = .call { callee := .value c, args := xs, argTypes := ts }) (hc : ev kv c = some (.func (.func f) fv.toArray cv.toArray)) (hxs : xs.toList.map (ev kv) = vs.map some)
    (hcl : Calls P f (fv ++ vs ++ cv).toArray w fun e w' => e = .returned v ∧ Below w.heap.size w w') : Does P o a w (fun x w' => x = v ∧ Own w0 w' bs rs K) :=
  (does_enter (by rw [run_callC F ho hc hxs]; exact hf _ w) hcl).mono fun _ _ h => ⟨h.1, H.call h.2⟩
theorem d_callCO {f : FuncId} {c : Operand} {xs : Array Operand} {ts : Array TypeId} {vs fv cv : List Value} {R : Value → World → Prop} (hf : isFn P f) (F : Fr n a kv ds) (ho : o.op = .call { callee := .value c, args := xs, argTypes := ts }) (hc : ev kv c = some (.func (.func f) fv.toArray cv.toArray)) (hxs : xs.toList.map (ev kv) = vs.map some)
    (hcl : Calls P f (fv ++ vs ++ cv).toArray w fun e w' => ∃ x, e = .returned x ∧ R x w') : Does P o a w R := does_calls (by rw [run_callC F ho hc hxs]; exact hf _ w) hcl
theorem run_slice_nil {t E : TypeId} {z bytes : Nat} {kd : IntKind} (hT : elemT P t E z bytes) : (Instr.sliceAt t (.slice none 0 0) none (some (.int kd (0 : Nat))) none).run P w = .ok (.slice none 0 0) w := by
  have he := elem_of hT
  have hu : P.underlying t = some (.slice (P.elem t)) := by rw [he]; exact hT.1
  rw [run_sliceAt_slice _ t _ _ _ _ hu, run_slice_h _ t none 0 0 hu kd ((0 : Nat) : Int) (by omega) (by omega), he, size_of hT, Result.andThen_ok]
  rfl
theorem d_sliceA {x j : Operand} {t E : TypeId} {z bytes h m cap : Nat} {ad : Option Addr} {kd : IntKind} {l : List (BitVec 64)} (hT : elemT P t E z bytes) (F : Fr n a kv ds) (ho : o.op = .slice t x none (some j) none) (hx : ev kv x = some (.slice ad m cap)) (hj : ev kv j = some (.int kd (h : Nat))) (hr : Gf.Rd w (.slice ad m cap) l) (hk : h ≤ l.length) :
    Does P o a w (fun y w' => y = .slice ad h cap ∧ w' = w) := by
  rcases hr.2 with ⟨e, rfl⟩ | ⟨g, o, cap', e, hc, _⟩
  · have : h = 0 := by simpa using hk
    subst this; cases e
    refine does_run ?_
    unfold execOp; rw [ho]; simp only [F.ev hx, F.ev hj, Option.map_some, Option.map_none, Sem.run_bind, run_slice_nil hT]; rfl
  · cases e
    exact d_sliceH hT F ho hx hj rfl (by omega)
theorem d_callR2 {f : FuncId} {xs : Array Operand} {ts : Array TypeId} {vs : List Value} {mk : Value → Value → Value} {E : TypeId} {z m : Nat} {cs : List Value} (hf : isFn P f) (F : Fr n a kv ds) (H : Own w0 w bs rs K) (ho : o.op = .call { callee := .value (.func f), args := xs, argTypes := ts }) (hxs : xs.toList.map (ev kv) = vs.map some)
    (hc : Calls P f vs.toArray w fun e w' => ∃ (qa : Option Addr) (qm qc : Nat) (v : Value), e = .returned (mk (.slice qa qm qc) v) ∧ w'.ownsRow w.heap.size E z v m cs ∧ Below w.heap.size w w') : Does P o a w (fun x w' => ∃ (qa : Option Addr) (qm qc : Nat) (v : Value), x = mk (.slice qa qm qc) v ∧ Own w0 w' bs (⟨true, v, E, z, m, cs⟩ :: rs) K) := by
  refine does_calls (by rw [run_call F ho hxs]; exact hf _ w) (hc.mono ?_)
  rintro e w' ⟨qa, qm, qc, v, rfl, h1, h2⟩
  exact ⟨_, rfl, qa, qm, qc, v, rfl, H.consR h2 ⟨true, v, E, z, m, cs⟩ h1⟩
theorem sr2 {ops : Array Oper} {rest : List Oper} {Q : Exit → Act → World → Prop} {d : Nat} {mk : Value → Value → Value} {R : Value → Value → World → Prop} (F : Fr n a kv ds) (D : Does P o a w (fun x w' => ∃ (qa : Option Addr) (qm qc : Nat) (v : Value), x = mk (.slice qa qm qc) v ∧ R (.slice qa qm qc) v w')) (hg : Region.wanted o (yielded ops a.tmps) = true) (hd : o.dst = some d) (hn : d < n)
    (h : ∀ qa qm qc v a' w', Fr n a' ((d, mk (.slice qa qm qc) v) :: kv) ds → R (.slice qa qm qc) v w' → wpList P ops Q rest a' w') : wpList P ops Q (o :: rest) a w := by
  refine step hg D ?_
  rintro x w' ⟨qa, qm, qc, v, rfl, r⟩
  rw [hd]
  exact h qa qm qc v _ _ (F.put hn _) r
theorem c_bit (l : List (BitVec 64)) (i : Nat) {p : Nat} (hp : Gf.val l = p) : (convert 22 3 (.int .u64 ((Gf.get l ((i / 64 : Nat) : Int)) >>> (i % 64) &&& 1#64).toNat)).run Tryz.prog w = .ok (.int .i64 ((p.testBit i).toNat : Nat)) w := by
  rw [Gf.bit_of, hp]
  cases p.testBit i <;> kernel_rfl
theorem undPoly : Tryz.prog.underlying 274 = some (.slice 22) := by kernel_rfl
theorem infU64 : (Tryz.prog.info? 22).map (fun i => (i.zero, i.size, i.bytes)) = some (some (.int .u64 0), 1, 8) := by kernel_rfl
end Sx
end
open Sx in
theorem gclone0  (w0 : World) : Calls Tryz.prog 220 #[nS] w0 fun e w' => ∃ v, e = .returned (v) ∧ w'.ownsRow w0.heap.size 22 1 v 0 [] ∧ Below w0.heap.size w0 w' := by
 refine En Tryz.func220 Tryz.ntmps220 fun A F => ?_
 have H := Sx.Own.start w0
 refine Sp fun _ kk => Av F fun A F => ?_
 refine Nl kk (Sx.seq fun K2 hK2 => Sp fun _ kk => Av F fun A F => ?_)
 refine Zv F (Bn bT F rfl rfl rfl (i_slnil Sx.undPoly rfl)) fun A F => ?_
 refine Nl kk (condT F rfl (Sp fun _ kk => Av F fun A F => ?_))
 refine Nl kk (Wr (ret1 F Tryz.results220 (res_tmp F rfl) ?_))
 exact ⟨_, rfl, World.ownsRow_nil _ _ _ _, H.below⟩
open Sx in
theorem gclone1 (l : List (BitVec 64)) (ga oa capa : Nat) (w0 : World) (few : l.length ≤ 900000) (hc : ∀ k x, l[k]? = some x → w0.cell? ⟨ga, oa + k, none⟩ = some (iU (x.toNat : Nat))) : Calls Tryz.prog 220 #[sL ga oa l.length capa] w0 fun e w' => ∃ v, e = .returned (v) ∧ w'.ownsRow w0.heap.size 22 1 v l.length (Gf.cells l) ∧ Below w0.heap.size w0 w' := by
 refine En Tryz.func220 Tryz.ntmps220 fun A F => ?_
 have H := Sx.Own.start w0
 refine Sp fun _ kk => Av F fun A F => ?_
 refine Nl kk (Sx.seq fun K2 hK2 => Sp fun _ kk => Av F fun A F => ?_)
 refine Zv F (Bn bF F rfl rfl rfl (i_slnil Sx.undPoly rfl)) fun A F => ?_
 refine Nl kk (condF F rfl (wp_skip (hK2 _ _ (Sp fun _ kk => Zr (mk := fun v => v) F (d_litR (qs := #[]) (cs := #[]) (E := 22) (z := 1) F H rfl rfl (fun _ => by kernel_rfl) rfl (by decide)) fun v1 A w F (H : Sx.Own w0 _ [] [⟨true, v1, 22, 1, 0, []⟩]) => ?_))))
 refine Av F fun A F => ?_
 refine Zr (mk := fun v => v) F (d_appendF (i := 0) el_274 F H rfl rfl rfl rfl (by rw [Gf.cells_len, Nat.mul_one]) (fun j u hu => by obtain ⟨x, hx, rfl⟩ := Gf.cells_get hu; rw [Addr.add_mid]; exact hc j x hx) (Gf.cells_ones l) rfl (by omega) (by decide)) fun v2 A w F (H : Sx.Own w0 _ [] [⟨true, v2, 22, 1, (0 + l.length), ([] ++ Gf.cells l)⟩]) => ?_
 refine Av F fun A F => ?_
 refine Nl kk (Wr (ret1 F Tryz.results220 (res_tmp F rfl) ?_))
 rw [Nat.zero_add, List.nil_append] at H
 exact ⟨_, rfl, H.row 0 _ rfl rfl, H.below⟩
theorem gclone_c (v : Value) (l : List (BitVec 64)) (w : World) (h : Gf.Rd w v l) : Calls Tryz.prog 220 #[v] w fun e w' => ∃ v, e = .returned (v) ∧ w'.ownsRow w.heap.size 22 1 v l.length (Gf.cells l) ∧ Below w.heap.size w w' := by
 obtain ⟨few, ⟨rfl, rfl⟩ | ⟨g, o, cap, rfl, _, hc⟩⟩ := h
 ·exact gclone0 w
 ·exact gclone1 l g o cap w few hc
open Sx in
theorem gown_1 (l : List (BitVec 64)) (ada : Option Addr) (capa : Nat) (w0 : World) (hrd : Gf.Rd w0 (.slice ada l.length capa) l) : Calls Tryz.prog 214 #[.slice ada l.length capa] w0 fun e w' => ∃ v, e = .returned (v) ∧ w'.ownsRow w0.heap.size 22 1 v (Gf.ws (Gf.val l)).length (Gf.cells (Gf.ws (Gf.val l))) ∧ Below w0.heap.size w0 w' := by
 have few := hrd.few
 have hca := hrd.at
 refine En Tryz.func214 Tryz.ntmps214 fun A F => ?_
 have H := Sx.Own.start w0
 refine Sp fun _ kk => Av F fun A F => ?_
 refine Nl kk (Sp fun _ kk => Av F fun A F => ?_)
 refine Zv F (d_lenS el_274 F rfl rfl) fun A F => ?_
 refine Av F fun A F => ?_
 refine Nl kk (Sx.seq fun K3 hK3 => wp_block (loop (fun q A w => ∃ (n : Nat), q = n ∧ n ≤ l.length ∧ (∀ k, n ≤ k → l.getD k 0#64 = 0#64) ∧ Fr 22 A [(0, .slice ada l.length capa), (3, iI n)] ∧ Sx.Own w0 w [] []) l.length ⟨l.length, rfl, Nat.le_refl _, fun k hk => Gf.getD_out hk, F.to ⟨rfl, rfl, trivial⟩, H⟩ ?_))
 rintro q A w ⟨n, rfl, hn, hz, F, H⟩
 by_cases h0 : q = 0
 ·subst h0
  refine Sx.seq fun K4 hK4 => Sp fun _ kk => ?_
  iterate 3 (refine Av F ?_; intro A F)
  refine su F (wanted_off rfl (guard_known (d := 8) (b := false) F rfl rfl) rfl) rfl (by decide) (fun A F => ?_)
  refine su F (wanted_off rfl (guard_known (d := 8) (b := false) F rfl rfl) rfl) rfl (by decide) (fun A F => ?_)
  refine su F (wanted_off rfl (guard_known (d := 8) (b := false) F rfl rfl) rfl) rfl (by decide) (fun A F => ?_)
  refine su F (wanted_off rfl (guard_known (d := 8) (b := false) F rfl rfl) rfl) rfl (by decide) (fun A F => ?_)
  refine su F (wanted_off rfl (guard_known (d := 8) (b := false) F rfl rfl) rfl) rfl (by decide) (fun A F => ?_)
  refine su F (wanted_off rfl (guard_known (d := 8) (b := false) F rfl rfl) rfl) rfl (by decide) (fun A F => ?_)
  refine Av F fun A F => ?_
  refine Nl kk (condF F rfl (wp_exit ?_))
  try dsimp only [Exit.then, Exit.jump, Exit.noGoto]
  refine exit_here (hK3 _ _ (Sp fun _ kk => ?_))
  iterate 2 (refine Av F ?_; intro A F)
  have hown := Gf.own_of l 0 hn hz (.inl rfl)
  refine Zv F (d_sliceA el_274 F rfl rfl rfl (hrd.below H.below) (by omega)) fun A F => ?_
  refine Zr (mk := fun v => v) F (d_callR (vs := [.slice ada 0 capa]) (mk := fun v => v) if_220 F H rfl rfl (gclone_c _ (l.take 0) _ ((hrd.cut 0 hn).below H.below))) fun v1 A w F (H : Sx.Own w0 _ [] [⟨true, v1, 22, 1, (l.take 0).length, (Gf.cells (l.take 0))⟩]) => ?_
  refine Av F fun A F => ?_
  refine Nl kk (Wr (ret1 F Tryz.results214 (res_tmp F rfl) ?_))
  rw [hown] at H
  exact ⟨_, rfl, H.row 0 _ rfl rfl, H.below⟩
 ·obtain ⟨x, hx⟩ := Gf.some_of (l := l) (k := q - 1) (by omega)
  obtain ⟨ga, oa, hada, hcell⟩ := hca (q - 1) x hx
  by_cases hx0 : x.toNat = 0
  ·skip
   refine Sx.seq fun K7 hK7 => Sp fun _ kk => Av F fun A F => ?_
   refine Zv F (Bn bT F rfl rfl rfl (i_gt (decide_eq_true (by omega)))) fun A F => ?_
   iterate 3 (refine Av F ?_; intro A F)
   refine Zv F (Bn (iI (q - 1 : Nat)) F rfl rfl rfl (i_subS (by rw [in64 _ (by omega)]; omega))) fun A F => ?_
   refine Zv F (d_ix1 (k := (q - 1)) (g := ga) (off := oa) el_274 F rfl rfl hada rfl (rfl) (by omega)) fun A F => ?_
   refine Zv F (d_loadF one_22 F H rfl rfl hcell) fun A F => ?_
   refine Zv F (Bn bT F rfl rfl rfl (i_eq (by rw [hx0]; rfl))) fun A F => ?_
   refine Av F fun A F => ?_
   refine Nl kk (condT F rfl (wp_skip (hK7 _ _ (wp_block (Sx.plain ?_)))))
   refine Av F fun A F => ?_
   refine Zv F (Bn (iI (q - 1 : Nat)) F rfl rfl rfl (i_subS (by rw [in64 _ (by omega)]; omega))) fun A F => ?_
   refine Av F fun A F => ?_
   refine Sx.nil ?_
   try dsimp only [Exit.then]
   exact ⟨q - 1, by omega, q - 1, rfl, by omega, Gf.zero_down hz hx hx0, F.to ⟨rfl, rfl, trivial⟩, H⟩
  ·skip
   refine Sx.seq fun K9 hK9 => Sp fun _ kk => Av F fun A F => ?_
   refine Zv F (Bn bT F rfl rfl rfl (i_gt (decide_eq_true (by omega)))) fun A F => ?_
   iterate 3 (refine Av F ?_; intro A F)
   refine Zv F (Bn (iI (q - 1 : Nat)) F rfl rfl rfl (i_subS (by rw [in64 _ (by omega)]; omega))) fun A F => ?_
   refine Zv F (d_ix1 (k := (q - 1)) (g := ga) (off := oa) el_274 F rfl rfl hada rfl (rfl) (by omega)) fun A F => ?_
   refine Zv F (d_loadF one_22 F H rfl rfl hcell) fun A F => ?_
   refine Zv F (Bn bF F rfl rfl rfl (i_eq (beq_false_of_ne (by omega)))) fun A F => ?_
   refine Av F fun A F => ?_
   refine Nl kk (condF F rfl (wp_exit ?_))
   try dsimp only [Exit.then, Exit.jump, Exit.noGoto]
   refine exit_here (hK3 _ _ (Sp fun _ kk => ?_))
   iterate 2 (refine Av F ?_; intro A F)
   have hown := Gf.own_of l q hn hz (.inr (by rw [Gf.getD_of hx]; intro e; rw [e] at hx0; exact hx0 rfl))
   refine Zv F (d_sliceA el_274 F rfl rfl rfl (hrd.below H.below) (by omega)) fun A F => ?_
   refine Zr (mk := fun v => v) F (d_callR (vs := [.slice ada q capa]) (mk := fun v => v) if_220 F H rfl rfl (gclone_c _ (l.take q) _ ((hrd.cut q hn).below H.below))) fun v2 A w F (H : Sx.Own w0 _ [] [⟨true, v2, 22, 1, (l.take q).length, (Gf.cells (l.take q))⟩]) => ?_
   refine Av F fun A F => ?_
   refine Nl kk (Wr (ret1 F Tryz.results214 (res_tmp F rfl) ?_))
   rw [hown] at H
   exact ⟨_, rfl, H.row 0 _ rfl rfl, H.below⟩
theorem gown_c (v : Value) (l : List (BitVec 64)) (p : Nat) (hp : Gf.val l = p) (w : World) (h : Gf.Rd w v l) : Calls Tryz.prog 214 #[v] w fun e w' => ∃ v, e = .returned (v) ∧ w'.ownsRow w.heap.size 22 1 v (Gf.ws p).length (Gf.cells (Gf.ws p)) ∧ Below w.heap.size w w' := by
 obtain ⟨ada, capa, rfl⟩ := h.form
 subst hp
 exact gown_1 l ada capa w h
open Sx in
theorem gat_1 (l : List (BitVec 64)) (ada : Option Addr) (capa : Nat) (k : Int) (w0 : World) (hrd : Gf.Rd w0 (.slice ada l.length capa) l) : Calls Tryz.prog 215 #[.slice ada l.length capa, iI k] w0 fun e w' => e = .returned (uN (Gf.get l k)) ∧ Below w0.heap.size w0 w' := by
 have few := hrd.few
 have hca := hrd.at
 refine En Tryz.func215 Tryz.ntmps215 fun A F => ?_
 have H := Sx.Own.start w0
 refine Sp fun _ kk => Av F fun A F => ?_
 refine Nl kk ?_
 by_cases h0 : k < 0
 ·have e0 := Gf.get_out (l := l) (.inl h0)
  refine Sx.seq fun K2 hK2 => Sp fun _ kk => Av F fun A F => ?_
  refine Zv F (Bn bT F rfl rfl rfl (i_lt (decide_eq_true h0))) fun A F => ?_
  refine Av F fun A F => ?_
  refine su F (wanted_off rfl (guard_known (d := 7) (b := true) F rfl rfl) rfl) rfl (by decide) (fun A F => ?_)
  refine su F (wanted_off rfl (guard_known (d := 7) (b := true) F rfl rfl) rfl) rfl (by decide) (fun A F => ?_)
  refine su F (wanted_off rfl (guard_known (d := 7) (b := true) F rfl rfl) rfl) rfl (by decide) (fun A F => ?_)
  refine su F (wanted_off rfl (guard_known (d := 7) (b := true) F rfl rfl) rfl) rfl (by decide) (fun A F => ?_)
  refine Av F fun A F => ?_
  refine Nl kk (condT F rfl (Sp fun _ kk => Av F fun A F => ?_))
  refine Nl kk ?_
  refine Wr (ret1 F Tryz.results215 (res_tmp F rfl) (An ?_ H.below))
  rw [e0]; rfl
 by_cases h1 : (l.length : Int) ≤ k
 ·have e0 := Gf.get_out (l := l) (.inr h1)
  refine Sx.seq fun K5 hK5 => Sp fun _ kk => Av F fun A F => ?_
  refine Zv F (Bn bF F rfl rfl rfl (i_lt (decide_eq_false h0))) fun A F => ?_
  iterate 3 (refine Av F ?_; intro A F)
  refine Zv F (d_lenS el_274 F rfl rfl) fun A F => ?_
  refine Zv F (Bn bT F rfl rfl rfl (i_ge (decide_eq_true h1))) fun A F => ?_
  refine Av F fun A F => ?_
  refine Nl kk (condT F rfl (Sp fun _ kk => Av F fun A F => ?_))
  refine Nl kk ?_
  refine Wr (ret1 F Tryz.results215 (res_tmp F rfl) (An ?_ H.below))
  rw [e0]; rfl
 obtain ⟨j, rfl⟩ := Int.eq_ofNat_of_zero_le (Int.not_lt.1 h0)
 obtain ⟨x, hx⟩ := Gf.some_of (l := l) (k := j) (by omega)
 obtain ⟨ga, oa, hada, hcell⟩ := hca j x hx
 refine Sx.seq fun K8 hK8 => Sp fun _ kk => Av F fun A F => ?_
 refine Zv F (Bn bF F rfl rfl rfl (i_lt (decide_eq_false h0))) fun A F => ?_
 iterate 3 (refine Av F ?_; intro A F)
 refine Zv F (d_lenS el_274 F rfl rfl) fun A F => ?_
 refine Zv F (Bn bF F rfl rfl rfl (i_ge (decide_eq_false h1))) fun A F => ?_
 refine Av F fun A F => ?_
 refine Nl kk (condF F rfl (wp_skip (hK8 _ _ (Sp fun _ kk => ?_))))
 iterate 2 (refine Av F ?_; intro A F)
 refine Zv F (d_ix1 (k := j) (g := ga) (off := oa) el_274 F rfl rfl hada rfl (rfl) (by omega)) fun A F => ?_
 refine Zv F (d_loadF one_22 F H rfl rfl hcell) fun A F => ?_
 refine Av F fun A F => ?_
 refine Nl kk ?_
 refine Wr (ret1 F Tryz.results215 (res_tmp F rfl) (An ?_ H.below))
 rw [Gf.ix_of hx]
theorem gat_c (k : Int) (v : Value) (l : List (BitVec 64)) (w : World) (h : Gf.Rd w v l) : Calls Tryz.prog 215 #[v, iI k] w fun e w' => e = .returned (iU (Gf.get l k).toNat) ∧ Below w.heap.size w w' := by
 obtain ⟨ada, capa, rfl⟩ := h.form
 exact gat_1 l ada capa k w h
open Sx in
theorem gbit_1 (l : List (BitVec 64)) (ada : Option Addr) (capa : Nat) (i : Nat) (hi : i < 9223372036854775808) (w0 : World) (hrd : Gf.Rd w0 (.slice ada l.length capa) l) : Calls Tryz.prog 210 #[.slice ada l.length capa, iI i] w0 fun e w' => e = .returned (iI (((Gf.val l).testBit i).toNat)) ∧ Below w0.heap.size w0 w' := by
 have few := hrd.few
 have hca := hrd.at
 refine En Tryz.func210 Tryz.ntmps210 fun A F => ?_
 have H := Sx.Own.start w0
 refine Sp fun _ kk => Av F fun A F => ?_
 refine Nl kk (Sx.seq fun K2 hK2 => Sp fun _ kk => Av F fun A F => ?_)
 refine Zv F (Bn bF F rfl rfl rfl (i_lt (decide_eq_false (by omega)))) fun A F => ?_
 refine Nl kk (condF F rfl (wp_skip (hK2 _ _ (Sp fun _ kk => ?_))))
 iterate 2 (refine Av F ?_; intro A F)
 refine Zv F (Bn (iI (i / 64 : Nat)) F rfl rfl rfl (i_quoN rfl (by decide) (in_i64 _ (by omega)))) fun A F => ?_
 refine Zw F (Dc if_215 F H (gat_c (i / 64 : Nat) _ l _ ((hrd).below H.below))) fun A w F H => ?_
 refine Av F fun A F => ?_
 refine Zv F (Bn (iI (i % 64 : Nat)) F rfl rfl rfl (i_rem rfl (by decide))) fun A F => ?_
 refine Zv F (Bn (iU (Gf.get l (i / 64 : Nat) >>> (i % 64)).toNat) F rfl rfl rfl (i_shr64 _ (i % 64) (by omega) _)) fun A F => ?_
 refine Zv F (Bn (iU (Gf.get l (i / 64 : Nat) >>> (i % 64) &&& 1#64).toNat) F rfl rfl rfl (i_and64 _ 1#64)) fun A F => ?_
 refine Zv F (d_conv (v := iI (((Gf.val l).testBit i).toNat)) F rfl rfl (c_bit l i rfl)) fun A F => ?_
 refine Av F fun A F => ?_
 refine Nl kk ?_
 refine Wr (ret1 F Tryz.results210 (res_tmp F rfl) (An ?_ H.below))
 rfl
theorem gbit_c (i : Nat) (v : Value) (l : List (BitVec 64)) (p : Nat) (hp : Gf.val l = p) (w : World) (hi : i < 9223372036854775808) (h : Gf.Rd w v l) : Calls Tryz.prog 210 #[v, iI i] w fun e w' => e = .returned (iI (p.testBit i).toNat) ∧ Below w.heap.size w w' := by
 obtain ⟨ada, capa, rfl⟩ := h.form
 subst hp
 exact gbit_1 l ada capa i hi w h
open Sx in
theorem gdeg_1 (l : List (BitVec 64)) (ada : Option Addr) (capa : Nat) (w0 : World) (hrd : Gf.Rd w0 (.slice ada l.length capa) l) : Calls Tryz.prog 209 #[.slice ada l.length capa] w0 fun e w' => e = .returned (iI (Gf.deg (Gf.val l))) ∧ Below w0.heap.size w0 w' := by
 have few := hrd.few
 have hca := hrd.at
 refine En Tryz.func209 Tryz.ntmps209 fun A F => ?_
 have H := Sx.Own.start w0
 refine Sp fun _ kk => Av F fun A F => ?_
 refine Nl kk (Sp fun _ kk => Av F fun A F => ?_)
 refine Zr (mk := fun v => v) F (d_callR (vs := [.slice ada l.length capa]) (mk := fun v => v) if_214 F H rfl rfl (gown_c _ l (Gf.val l) rfl _ ((hrd).below H.below))) fun v1 A w F H => ?_
 refine Av F fun A F => ?_
 refine Nl kk ?_
 by_cases h0 : Gf.val l = 0
 ·have e0 : (Gf.ws (Gf.val l)).length = 0 := by rw [h0, Gf.ws_zero]; rfl
  refine Sx.seq fun K3 hK3 => Sp fun _ kk => Av F fun A F => ?_
  refine Zv F (d_len (i := 0) el_274 F H rfl rfl rfl) fun A F => ?_
  refine Zv F (Bn bT F rfl rfl rfl (i_eq (beq_iff_eq.2 (by omega)))) fun A F => ?_
  refine Nl kk (condT F rfl (Sp fun _ kk => Av F fun A F => ?_))
  refine Nl kk ?_
  refine Wr (ret1 F Tryz.results209 (res_tmp F rfl) (An ?_ H.below))
  unfold Gf.deg; rw [if_pos h0]
 have hpos := Gf.len_zero h0
 obtain ⟨x, hx⟩ := Gf.some_of (l := Gf.ws (Gf.val l)) (k := (Gf.ws (Gf.val l)).length - 1) (by omega)
 have hl64 := Ln.len64_le x
 have hown := Gf.own_le l
 obtain ⟨gq, cq, rfl, hc1, hc2⟩ := H.open (i := 0) rfl (by omega)
 refine Sx.seq fun K6 hK6 => Sp fun _ kk => Av F fun A F => ?_
 refine Zv F (d_len (i := 0) el_274 F H rfl rfl rfl) fun A F => ?_
 refine Zv F (Bn bF F rfl rfl rfl (i_eq (beq_false_of_ne (by omega)))) fun A F => ?_
 refine Nl kk (condF F rfl (wp_skip (hK6 _ _ (Sp fun _ kk => Av F fun A F => ?_))))
 refine Zv F (d_len (i := 0) el_274 F H rfl rfl rfl) fun A F => ?_
 refine Zv F (Bn (iI (((Gf.ws (Gf.val l)).length : Int) - 1)) F rfl rfl rfl (i_subS (in64 _ (by omega)))) fun A F => ?_
 refine Zv F (Bn (iI ((64 : Int) * (((Gf.ws (Gf.val l)).length : Int) - 1))) F rfl rfl rfl (i_mulS (in64 _ (by omega)))) fun A F => ?_
 iterate 2 (refine Av F ?_; intro A F)
 refine Zv F (d_len (i := 0) el_274 F H rfl rfl rfl) fun A F => ?_
 refine Zv F (Bn (iI (((Gf.ws (Gf.val l)).length : Int) - 1)) F rfl rfl rfl (i_subS (in64 _ (by omega)))) fun A F => ?_
 refine Zv F (d_ixR (k := ((Gf.ws (Gf.val l)).length - 1)) el_274 F rfl rfl rfl (by omega) (by omega)) fun A F => ?_
 refine Zv F (d_loadR (i := 0) (v := uN x) one_22 F H rfl rfl rfl (Gf.cells_at hx)) fun A F => ?_
 refine Zw F (Dc if_156 F H (blen_c x _)) fun A w F H => ?_
 refine Zv F (Bn (iI (((64 : Int) * (((Gf.ws (Gf.val l)).length : Int) - 1) : Int) + (Ln.len64 x))) F rfl rfl rfl (i_addS (in64 _ (by omega)))) fun A F => ?_
 refine Zv F (Bn (iI ((((64 : Int) * (((Gf.ws (Gf.val l)).length : Int) - 1) : Int) + (Ln.len64 x) : Int) - 1)) F rfl rfl rfl (i_subS (in64 _ (by omega)))) fun A F => ?_
 refine Av F fun A F => ?_
 refine Nl kk ?_
 refine Wr (ret1 F Tryz.results209 (res_tmp F rfl) (An ?_ H.below))
 rw [← Gf.deg_eq h0 hx]
theorem gdeg_c (v : Value) (l : List (BitVec 64)) (p : Nat) (hp : Gf.val l = p) (w : World) (h : Gf.Rd w v l) : Calls Tryz.prog 209 #[v] w fun e w' => e = .returned (iI (Gf.deg p)) ∧ Below w.heap.size w w' := by
 obtain ⟨ada, capa, rfl⟩ := h.form
 subst hp
 exact gdeg_1 l ada capa w h
open Sx in
theorem gadd_1 (la : List (BitVec 64)) (ada : Option Addr) (capa : Nat) (lb : List (BitVec 64)) (adb : Option Addr) (capb : Nat) (w0 : World) (hra : Gf.Rd w0 (.slice ada la.length capa) la) (hrb : Gf.Rd w0 (.slice adb lb.length capb) lb) : Calls Tryz.prog 228 #[.slice ada la.length capa, .slice adb lb.length capb] w0 fun e w' => ∃ v, e = .returned (v) ∧ w'.ownsRow w0.heap.size 22 1 v (Gf.ws (Gf.val la ^^^ Gf.val lb)).length (Gf.cells (Gf.ws (Gf.val la ^^^ Gf.val lb))) ∧ Below w0.heap.size w0 w' := by
 have fewa := hra.few
 have fewb := hrb.few
 have hca := hra.at
 have hcb := hrb.at
 obtain ⟨m, hm⟩ : ∃ m, max la.length lb.length = m := ⟨_, rfl⟩
 obtain ⟨f, hf⟩ : ∃ f : Nat → BitVec 64, f = (fun i : Nat => Gf.get la (i : Int) ^^^ Gf.get lb (i : Int)) := ⟨_, rfl⟩
 have hval : Gf.val (Gf.fill f m m) = Gf.val la ^^^ Gf.val lb := by rw [Gf.fill_all, hf]; exact Gf.val_add la lb (by omega) (by omega)
 refine En Tryz.func228 Tryz.ntmps228 fun A F => ?_
 have H := Sx.Own.start w0
 refine Sp fun _ kk => Av F fun A F => ?_
 refine Nl kk (Sp fun _ kk => Av F fun A F => ?_)
 refine Zv F (d_lenS el_274 F rfl rfl) fun A F => ?_
 refine Av F fun A F => ?_
 refine Zv F (d_lenS el_274 F rfl rfl) fun A F => ?_
 refine Zv F (d_max (r := m) F rfl rfl rfl (by omega)) fun A F => ?_
 refine Zr (mk := fun v => v) F (d_make (m := m) Sx.undPoly Sx.infU64 rfl F H rfl (rfl) (rfl) (by omega) (by omega)) fun v1 A w F (H : Sx.Own w0 _ [] [⟨true, v1, 22, 1, m, (List.replicate m (iU 0))⟩]) => ?_
 refine Av F fun A F => ?_
 refine Sx.nil ?_
 rw [Gf.cells_rep, Gf.fill_zero f] at H
 refine kk _ _ ?_
 refine Sx.seq fun K3 hK3 => Sp fun _ kk => Av F fun A F => ?_
 refine Zv F (d_len (i := 0) el_274 F H rfl rfl rfl) fun A F => ?_
 refine Av F fun A F => ?_
 refine Nl kk (wp_block (loop (fun q A w => ∃ (i : Nat) (u : Value), q = m - i ∧ i ≤ m ∧ Fr 31 A [(0, .slice ada la.length capa), (1, .slice adb lb.length capb), (14, iI m), (5, u), (13, u), (15, iI i)] ∧ Sx.Own w0 w [] [⟨true, u, 22, 1, m, (Gf.cells (Gf.fill f i m))⟩]) (m - 0) ⟨0, v1, rfl, Nat.zero_le _, F.to ⟨rfl, rfl, rfl, rfl, rfl, rfl, trivial⟩, H⟩ ?_))
 rintro q A w ⟨i, u, rfl, hi_i, F, H⟩
 by_cases hlt_i : i < m
 ·skip
  have Fcur := F
  have Hcur := H
  obtain ⟨lg, lc, rfl, hc1_lg, hc2_lg⟩ := Hcur.open (i := 0) rfl (by omega)
  have F := Fcur
  have H := Hcur
  have e1 : Gf.get la i ^^^ Gf.get lb i = f i := by rw [hf]
  refine Sp fun _ kk => Zv F (Bn bT F rfl rfl rfl (i_lt (decide_eq_true (by omega)))) fun A F => ?_
  refine Nl kk (Sx.seq fun K6 hK6 => condT F rfl (wp_skip (hK6 _ _ (Sx.seq fun K7 hK7 => wp_block (Sp fun _ kk => ?_)))))
  iterate 2 (refine Av F ?_; intro A F)
  refine Nl kk (Sx.plain ?_)
  iterate 4 (refine Av F ?_; intro A F)
  refine Zw F (Dc if_215 F H (gat_c i _ la _ ((hra).below H.below))) fun A w F H => ?_
  iterate 2 (refine Av F ?_; intro A F)
  refine Zw F (Dc if_215 F H (gat_c i _ lb _ ((hrb).below H.below))) fun A w F H => ?_
  refine Zv F (Bn (uN ((Gf.get la i) ^^^ (Gf.get lb i))) F rfl rfl rfl (i_xor64 (Gf.get la i) (Gf.get lb i))) fun A F => ?_
  refine Zv F (d_ixR (k := i) el_274 F rfl rfl rfl (rfl) (by omega)) fun A F => ?_
  refine Zt F (d_storeR (i := 0) (k := i) sz_22 F H rfl rfl rfl rfl rfl rfl (by omega)) fun A w F (H : Sx.Own w0 _ [] [⟨true, sL lg 0 m lc, 22, 1, m, ((Gf.cells (Gf.fill f i m)).set i (uN ((Gf.get la i) ^^^ (Gf.get lb i))))⟩]) => ?_
  refine Sx.nil (hK7 _ _ (Sx.plain ?_))
  refine Zv F (Bn (iI (i + 1 : Nat)) F rfl rfl rfl (i_addN rfl (in_i64 _ (by omega)))) fun A F => ?_
  refine Av F fun A F => ?_
  refine Sx.nil ?_
  try dsimp only [Exit.then, Exit.noGoto]
  rw [Gf.cells_set, e1, Gf.fill_set f hlt_i] at H
  exact ⟨m - (i + 1), by omega, i + 1, (sL lg 0 m lc), rfl, by omega, F.to ⟨rfl, rfl, rfl, rfl, rfl, rfl, trivial⟩, H⟩
 ·have hie_i : m = i := by omega
  subst hie_i
  refine Sp fun _ kk => Zv F (Bn bF F rfl rfl rfl (i_lt (by simp))) fun A F => ?_
  refine Nl kk (Sx.seq fun K10 hK10 => condF F rfl (wp_exit ?_))
  try dsimp only [Exit.then, Exit.jump, Exit.noGoto]
  refine exit_here (hK3 _ _ (Sp fun _ kk => Av F fun A F => ?_))
  refine Zr (mk := fun v => v) F (d_callR (vs := [u]) (mk := fun v => v) if_214 F H rfl rfl (gown_c _ (Gf.fill f m m) (Gf.val (Gf.fill f m m)) rfl _ (Gf.Rd.row (H.row 0 _ rfl rfl) (Gf.fill_len _ _ _).symm rfl (by rw [Gf.fill_len]; omega)))) fun v2 A w F (H : Sx.Own w0 _ [] [⟨true, v2, 22, 1, (Gf.ws (Gf.val (Gf.fill f m m))).length, (Gf.cells (Gf.ws (Gf.val (Gf.fill f m m))))⟩, ⟨true, u, 22, 1, m, (Gf.cells (Gf.fill f m m))⟩]) => ?_
  refine Av F fun A F => ?_
  refine Nl kk (Wr (ret1 F Tryz.results228 (res_tmp F rfl) ?_))
  rw [hval] at H
  exact ⟨_, rfl, H.row 0 _ rfl rfl, H.below⟩
theorem gadd_c  (va : Value) (vb : Value) (la : List (BitVec 64)) (lb : List (BitVec 64)) (Pa : Nat) (Pb : Nat) (hpa : Gf.val la = Pa) (hpb : Gf.val lb = Pb)  (w : World) (ha : Gf.Rd w va la) (hb : Gf.Rd w vb lb) : Calls Tryz.prog 228 #[va, vb] w fun e w' => ∃ v, e = .returned (v) ∧ w'.ownsRow w.heap.size 22 1 v (Gf.ws (Pa ^^^ Pb)).length (Gf.cells (Gf.ws (Pa ^^^ Pb))) ∧ Below w.heap.size w w' := by
 obtain ⟨ada, capa, rfl⟩ := ha.form
 subst hpa
 obtain ⟨adb, capb, rfl⟩ := hb.form
 subst hpb
 exact gadd_1  la ada capa lb adb capb  w ha hb
open Sx in
theorem gup_1 (n : Nat) (hn : n ≤ 2048) (la : List (BitVec 64)) (ada : Option Addr) (capa : Nat) (hs : la.length ≤ 800000) (w0 : World) (hra : Gf.Rd w0 (.slice ada la.length capa) la) : Calls Tryz.prog 225 #[.slice ada la.length capa, iI n] w0 fun e w' => ∃ v, e = .returned (v) ∧ w'.ownsRow w0.heap.size 22 1 v (Gf.ws (Gf.val la <<< n)).length (Gf.cells (Gf.ws (Gf.val la <<< n))) ∧ Below w0.heap.size w0 w' := by
 have fewa := hra.few
 have hca := hra.at
 obtain ⟨m, hm⟩ : ∃ m, la.length + n / 64 + 1 = m := ⟨_, rfl⟩
 obtain ⟨f, hf⟩ : ∃ f : Nat → BitVec 64, f = (fun i : Nat => Gf.get la ((i : Int) - (n / 64 : Nat)) <<< (n % 64) ||| Gf.get la ((i : Int) - (n / 64 : Nat) - 1) >>> (64 - n % 64)) := ⟨_, rfl⟩
 have hval : Gf.val (Gf.fill f m m) = Gf.val la <<< n := by rw [Gf.fill_all, hf, ← hm]; exact Gf.val_up la n
 refine En Tryz.func225 Tryz.ntmps225 fun A F => ?_
 have H := Sx.Own.start w0
 refine Sp fun _ kk => Av F fun A F => ?_
 refine Nl kk (Sx.seq fun K2 hK2 => Sp fun _ kk => Av F fun A F => ?_)
 refine Zv F (Bn bF F rfl rfl rfl (i_lt (decide_eq_false (by omega)))) fun A F => ?_
 iterate 2 (refine Av F ?_; intro A F)
 refine Zv F (Bn bF F rfl rfl rfl (i_gt (decide_eq_false (by omega)))) fun A F => ?_
 refine Av F fun A F => ?_
 refine Nl kk (condF F rfl (wp_skip (hK2 _ _ (Sp fun _ kk => Av F fun A F => ?_))))
 refine Zv F (d_lenS el_274 F rfl rfl) fun A F => ?_
 refine Av F fun A F => ?_
 refine Zv F (Bn (iI (n / 64 : Nat)) F rfl rfl rfl (i_quoN rfl (by decide) (in_i64 _ (by omega)))) fun A F => ?_
 refine Zv F (Bn (iI (la.length + n / 64 : Nat)) F rfl rfl rfl (i_addN rfl (in_i64 _ (by omega)))) fun A F => ?_
 refine Zv F (Bn (iI m) F rfl rfl rfl (i_addN hm (in_i64 _ (by omega)))) fun A F => ?_
 refine Zr (mk := fun v => v) F (d_make (m := m) Sx.undPoly Sx.infU64 rfl F H rfl (rfl) (rfl) (by omega) (by omega)) fun v1 A w F (H : Sx.Own w0 _ [] [⟨true, v1, 22, 1, m, (List.replicate m (iU 0))⟩]) => ?_
 refine Av F fun A F => ?_
 refine Sx.nil ?_
 rw [Gf.cells_rep, Gf.fill_zero f] at H
 refine kk _ _ ?_
 refine Sp fun _ kk => Av F fun A F => ?_
 refine Zv F (d_mkFunc (fv := [.slice ada la.length capa]) (cv := []) F rfl rfl rfl) fun A F => ?_
 refine Av F fun A F => ?_
 refine Zv F (Bn (iI (n % 64 : Nat)) F rfl rfl rfl (i_rem rfl (by decide))) fun A F => ?_
 iterate 2 (refine Av F ?_; intro A F)
 refine Nl kk (Sx.seq fun K6 hK6 => Sp fun _ kk => Av F fun A F => ?_)
 refine Zv F (d_len (i := 0) el_274 F H rfl rfl rfl) fun A F => ?_
 refine Av F fun A F => ?_
 refine Nl kk (wp_block (loop (fun q A w => ∃ (i : Nat) (u : Value), q = m - i ∧ i ≤ m ∧ Fr 55 A [(0, .slice ada la.length capa), (1, iI n), (6, .func (.func 215) #[.slice ada la.length capa] #[]), (7, iI (n % 64 : Nat)), (28, iI m), (5, u), (27, u), (29, iI i)] ∧ Sx.Own w0 w [] [⟨true, u, 22, 1, m, (Gf.cells (Gf.fill f i m))⟩]) (m - 0) ⟨0, v1, rfl, Nat.zero_le _, F.to ⟨rfl, rfl, rfl, rfl, rfl, rfl, rfl, rfl, trivial⟩, H⟩ ?_))
 rintro q A w ⟨i, u, rfl, hi_i, F, H⟩
 by_cases hlt_i : i < m
 ·skip
  have Fcur := F
  have Hcur := H
  obtain ⟨lg, lc, rfl, hc1_lg, hc2_lg⟩ := Hcur.open (i := 0) rfl (by omega)
  have F := Fcur
  have H := Hcur
  have e1 : (Gf.get la ((i : Int) - (n / 64 : Nat)) <<< (n % 64) ||| Gf.get la ((i : Int) - (n / 64 : Nat) - 1) >>> (64 - n % 64)) = f i := by rw [hf]
  refine Sp fun _ kk => Zv F (Bn bT F rfl rfl rfl (i_lt (decide_eq_true (by omega)))) fun A F => ?_
  refine Nl kk (Sx.seq fun K9 hK9 => condT F rfl (wp_skip (hK9 _ _ (Sx.seq fun K10 hK10 => wp_block (Sp fun _ kk => ?_)))))
  iterate 2 (refine Av F ?_; intro A F)
  refine Nl kk (Sp fun _ kk => ?_)
  iterate 2 (refine Av F ?_; intro A F)
  refine Zv F (Bn (iI (n / 64 : Nat)) F rfl rfl rfl (i_quoN rfl (by decide) (in_i64 _ (by omega)))) fun A F => ?_
  refine Zv F (Bn (iI ((i : Int) - (n / 64 : Nat))) F rfl rfl rfl (i_subS (in64 _ (by omega)))) fun A F => ?_
  refine Av F fun A F => ?_
  refine Nl kk ?_
  have F := F.tq [(0, .slice ada la.length capa), (1, iI n), (6, .func (.func 215) #[.slice ada la.length capa] #[]), (7, iI (n % 64 : Nat)), (28, iI m), (5, sL lg 0 m lc), (27, sL lg 0 m lc), (29, iI i), (30, bT), (31, iI i), (8, iI i), (32, iI i), (33, iI n), (34, iI (n / 64 : Nat)), (35, iI ((i : Int) - (n / 64 : Nat))), (9, iI ((i : Int) - (n / 64 : Nat)))] rfl
  refine Dn F [some (sL lg 0 m lc), some (iI i), some (.func (.func 215) #[.slice ada la.length capa] #[]), some (iI ((i : Int) - (n / 64 : Nat))), some (uN (Gf.get la ((i : Int) - (n / 64 : Nat)))), some (iI (n % 64 : Nat)), some (uN ((Gf.get la ((i : Int) - (n / 64 : Nat))) <<< (n % 64))), some (.func (.func 215) #[.slice ada la.length capa] #[]), some (iI ((i : Int) - (n / 64 : Nat))), some (iI (((i : Int) - (n / 64 : Nat) : Int) - 1)), some (uN (Gf.get la (((i : Int) - (n / 64 : Nat) : Int) - 1))), some (iI (n % 64 : Nat)), some (iI (64 - n % 64 : Nat)), some (uN ((Gf.get la (((i : Int) - (n / 64 : Nat) : Int) - 1)) >>> (64 - n % 64))), some (iU ((((Gf.get la ((i : Int) - (n / 64 : Nat))) <<< (n % 64)) ||| ((Gf.get la (((i : Int) - (n / 64 : Nat) : Int) - 1)) >>> (64 - n % 64))).toNat)), some (pT lg i), none] (fun L A w => Sx.Own w0 w [] [(cond (L 16) (⟨true, sL lg 0 m lc, 22, 1, m, ((Gf.cells (Gf.fill f i m)).set i (iU ((((Gf.get la ((i : Int) - (n / 64 : Nat))) <<< (n % 64)) ||| ((Gf.get la (((i : Int) - (n / 64 : Nat) : Int) - 1)) >>> (64 - n % 64))).toNat)))⟩ : Rx) ⟨true, sL lg 0 m lc, 22, 1, m, (Gf.cells (Gf.fill f i m))⟩)]) H.drew ?_ ?_
  ·refine ⟨?_, ?_, ?_, ?_, ?_, ?_, ?_, ?_, ?_, ?_, ?_, ?_, ?_, ?_, ?_, ?_, ?_, trivial⟩
   ·exact Sa
   ·exact Sa
   ·exact Sa
   ·exact Sa
   ·intro L A w up hun hd F H
    have f16 : L 16 = false := up 16 4 rfl hun
    rw [f16] at H
    refine step_on rfl (d_callC (fv := [.slice ada la.length capa]) (vs := [iI ((i : Int) - (n / 64 : Nat))]) (cv := []) (v := uN (Gf.get la ((i : Int) - (n / 64 : Nat)))) if_215 F H rfl rfl rfl (gat_c ((i : Int) - (n / 64 : Nat)) _ la _ ((hra).below H.below))) ?_
    rintro xv w' ⟨hx, H⟩
    exact ⟨Cs hx, (by show Sx.Own _ _ _ _; rw [show Inv.add L 4 16 = false from f16]; exact H)⟩
   ·exact Sa
   ·exact SV (fun _ _ _ F _ => Bn (uN ((Gf.get la ((i : Int) - (n / 64 : Nat))) <<< (n % 64))) F rfl rfl rfl (i_shl64 (Gf.get la ((i : Int) - (n / 64 : Nat))) (n % 64) (by omega) _))
   ·exact Sa
   ·exact Sa
   ·exact SV (fun _ _ _ F _ => Bn (iI (((i : Int) - (n / 64 : Nat) : Int) - 1)) F rfl rfl rfl (i_subS (in64 _ (by omega))))
   ·intro L A w up hun hd F H
    have f16 : L 16 = false := up 16 10 rfl hun
    rw [f16] at H
    refine step_on rfl (d_callC (fv := [.slice ada la.length capa]) (vs := [iI (((i : Int) - (n / 64 : Nat) : Int) - 1)]) (cv := []) (v := uN (Gf.get la (((i : Int) - (n / 64 : Nat) : Int) - 1))) if_215 F H rfl rfl rfl (gat_c (((i : Int) - (n / 64 : Nat) : Int) - 1) _ la _ ((hra).below H.below))) ?_
    rintro xv w' ⟨hx, H⟩
    exact ⟨Cs hx, (by show Sx.Own _ _ _ _; rw [show Inv.add L 10 16 = false from f16]; exact H)⟩
   ·exact Sa
   ·exact SV (fun _ _ _ F _ => Bn (iI (64 - n % 64 : Nat)) F rfl rfl rfl (i_subS (by rw [in64 _ (by omega)]; omega)))
   ·exact SV (fun _ _ _ F _ => Bn (uN ((Gf.get la (((i : Int) - (n / 64 : Nat) : Int) - 1)) >>> (64 - n % 64))) F rfl rfl rfl (i_shr64 (Gf.get la (((i : Int) - (n / 64 : Nat) : Int) - 1)) (64 - n % 64) (by omega) _))
   ·exact SV (fun _ _ _ F _ => Bn (iU ((((Gf.get la ((i : Int) - (n / 64 : Nat))) <<< (n % 64)) ||| ((Gf.get la (((i : Int) - (n / 64 : Nat) : Int) - 1)) >>> (64 - n % 64))).toNat)) F rfl rfl rfl (i_or64 ((Gf.get la ((i : Int) - (n / 64 : Nat))) <<< (n % 64)) ((Gf.get la (((i : Int) - (n / 64 : Nat) : Int) - 1)) >>> (64 - n % 64))))
   ·exact SV (fun _ _ _ F _ => d_ixR (k := i) el_274 F rfl rfl rfl (rfl) (by omega))
   ·intro L A w up hun hd F H
    have f16 : L 16 = false := hun
    rw [f16] at H
    refine step_on rfl (d_storeR (i := 0) (k := i) sz_22 F H rfl rfl rfl rfl rfl rfl (by omega)) ?_
    intro xv w' H
    exact ⟨Cn, H⟩
  ·intro L A w hL F H
   have t16 : L 16 = true := hL 16 rfl
   rw [t16] at H
   have F := F.tq [(0, .slice ada la.length capa), (1, iI n), (6, .func (.func 215) #[.slice ada la.length capa] #[]), (7, iI (n % 64 : Nat)), (28, iI m), (5, sL lg 0 m lc), (27, sL lg 0 m lc), (29, iI i), (30, bT), (31, iI i), (8, iI i), (32, iI i), (33, iI n), (34, iI (n / 64 : Nat)), (35, iI ((i : Int) - (n / 64 : Nat))), (9, iI ((i : Int) - (n / 64 : Nat)))] rfl
   refine hK10 _ _ (Sx.plain ?_)
   refine Zv F (Bn (iI (i + 1 : Nat)) F rfl rfl rfl (i_addN rfl (in_i64 _ (by omega)))) fun A F => ?_
   refine Av F fun A F => ?_
   refine Sx.nil ?_
   try dsimp only [Exit.then, Exit.noGoto]
   rw [Gf.cells_set, e1, Gf.fill_set f hlt_i] at H
   exact ⟨m - (i + 1), by omega, i + 1, (sL lg 0 m lc), rfl, by omega, F.to ⟨rfl, rfl, rfl, rfl, rfl, rfl, rfl, rfl, trivial⟩, H⟩
 ·have hie_i : m = i := by omega
  subst hie_i
  refine Sp fun _ kk => Zv F (Bn bF F rfl rfl rfl (i_lt (by simp))) fun A F => ?_
  refine Nl kk (Sx.seq fun K14 hK14 => condF F rfl (wp_exit ?_))
  try dsimp only [Exit.then, Exit.jump, Exit.noGoto]
  refine exit_here (hK6 _ _ (Sp fun _ kk => Av F fun A F => ?_))
  refine Zr (mk := fun v => v) F (d_callR (vs := [u]) (mk := fun v => v) if_214 F H rfl rfl (gown_c _ (Gf.fill f m m) (Gf.val (Gf.fill f m m)) rfl _ (Gf.Rd.row (H.row 0 _ rfl rfl) (Gf.fill_len _ _ _).symm rfl (by rw [Gf.fill_len]; omega)))) fun v2 A w F (H : Sx.Own w0 _ [] [⟨true, v2, 22, 1, (Gf.ws (Gf.val (Gf.fill f m m))).length, (Gf.cells (Gf.ws (Gf.val (Gf.fill f m m))))⟩, ⟨true, u, 22, 1, m, (Gf.cells (Gf.fill f m m))⟩]) => ?_
  refine Av F fun A F => ?_
  refine Nl kk (Wr (ret1 F Tryz.results225 (res_tmp F rfl) ?_))
  rw [hval] at H
  exact ⟨_, rfl, H.row 0 _ rfl rfl, H.below⟩
theorem gup_c (n : Nat) (hn : n ≤ 2048) (va : Value) (la : List (BitVec 64)) (Pa : Nat) (hpa : Gf.val la = Pa) (hs : la.length ≤ 800000) (w : World) (ha : Gf.Rd w va la) : Calls Tryz.prog 225 #[va, iI n] w fun e w' => ∃ v, e = .returned (v) ∧ w'.ownsRow w.heap.size 22 1 v (Gf.ws (Pa <<< n)).length (Gf.cells (Gf.ws (Pa <<< n))) ∧ Below w.heap.size w w' := by
 obtain ⟨ada, capa, rfl⟩ := ha.form
 subst hpa
 exact gup_1 n hn la ada capa hs w ha
open Sx in
theorem gx_c (n : Nat) (hn : n ≤ 2048) (w0 : World) : Calls Tryz.prog 217 #[iI n] w0 fun e w' => ∃ v, e = .returned (v) ∧ w'.ownsRow w0.heap.size 22 1 v (Gf.ws (1 <<< n)).length (Gf.cells (Gf.ws (1 <<< n))) ∧ Below w0.heap.size w0 w' := by
 refine En Tryz.func217 Tryz.ntmps217 fun A F => ?_
 have H := Sx.Own.start w0
 refine Sp fun _ kk => Av F fun A F => ?_
 refine Nl kk (Sp fun _ kk => Zr (mk := fun v => v) F (d_litR (qs := #[(0, iU 1)]) (cs := #[iU 1]) (E := 22) (z := 1) F H rfl rfl (fun _ => by kernel_rfl) rfl (by decide)) fun v1 A w F H => ?_)
 refine Av F fun A F => ?_
 refine Zr (mk := fun v => v) F (d_callR (vs := [v1, iI n]) (mk := fun v => v) if_225 F H rfl rfl (gup_c n (by omega) _ ([1#64]) 1 rfl (by decide) _ (Gf.Rd.row (H.row 0 _ rfl rfl) rfl rfl (by decide)))) fun v2 A w F H => ?_
 refine Av F fun A F => ?_
 refine Nl kk (Wr (ret1 F Tryz.results217 (res_tmp F rfl) ?_))
 exact ⟨_, rfl, H.row 0 _ rfl rfl, H.below⟩
open Sx in
theorem gwords_c (a b : BitVec 64) (w0 : World) : Calls Tryz.prog 238 #[uN a, uN b] w0 fun e w' => e = .returned (.tuple #[iU ((Gf.wd a b 64).1.toNat), iU ((Gf.wd a b 64).2.toNat)]) ∧ Below w0.heap.size w0 w' := by
 refine En Tryz.func238 Tryz.ntmps238 fun A F => ?_
 have H := Sx.Own.start w0
 refine Sp fun _ kk => ?_
 iterate 2 (refine Av F ?_; intro A F)
 refine Nl kk (Sp fun _ kk => ?_)
 iterate 2 (refine Av F ?_; intro A F)
 refine Nl kk (Sx.seq fun K3 hK3 => Sp fun _ kk => Av F fun A F => ?_)
 refine Nl kk (wp_block (loop (fun q A w => ∃ (i : Nat), q = 64 - i ∧ i ≤ 64 ∧ Fr 31 A [(0, uN a), (1, uN b), (6, iU ((Gf.wd a b i).1.toNat)), (7, iU ((Gf.wd a b i).2.toNat)), (9, iI i)] ∧ Sx.Own w0 w [] []) (64 - 0) ⟨0, rfl, Nat.zero_le _, F.to ⟨rfl, rfl, rfl, rfl, rfl, trivial⟩, H⟩ ?_))
 rintro q A w ⟨i, rfl, hi_i, F, H⟩
 by_cases hlt_i : i < 64
 ·skip
  refine Sp fun _ kk => Zv F (Bn bT F rfl rfl rfl (i_lt (decide_eq_true (by omega)))) fun A F => ?_
  refine Nl kk (Sx.seq fun K6 hK6 => condT F rfl (wp_skip (hK6 _ _ (Sx.seq fun K7 hK7 => wp_block (Sp fun _ kk => ?_)))))
  iterate 2 (refine Av F ?_; intro A F)
  refine Nl kk ?_
  by_cases hb : (b >>> i) &&& 1#64 = 1#64
  ·have hs : Gf.wd a b (i + 1) = _ := if_pos hb
   refine Sp fun _ kk => ?_
   iterate 2 (refine Av F ?_; intro A F)
   refine Zv F (Bn (iU (b >>> i).toNat) F rfl rfl rfl (i_shr64 b i (by omega) _)) fun A F => ?_
   refine Zv F (Bn (iU (b >>> i &&& 1#64).toNat) F rfl rfl rfl (i_and64 (b >>> i) 1#64)) fun A F => ?_
   refine Zv F (Bn bT F rfl rfl rfl (i_eq (by rw [hb]; rfl))) fun A F => ?_
   refine Nl kk (condT F rfl (Sp fun _ kk => ?_))
   iterate 3 (refine Av F ?_; intro A F)
   refine Zv F (Bn (iI (64 - i : Nat)) F rfl rfl rfl (i_subS (by rw [in64 _ (by omega)]; omega))) fun A F => ?_
   refine Zv F (Bn (iU (a >>> (64 - i)).toNat) F rfl rfl rfl (i_shr64 a (64 - i) (by omega) _)) fun A F => ?_
   refine Zv F (Bn (uN (((Gf.wd a b i).1) ^^^ (a >>> (64 - i)))) F rfl rfl rfl (i_xor64 ((Gf.wd a b i).1) (a >>> (64 - i)))) fun A F => ?_
   refine Av F fun A F => ?_
   refine Nl kk (Sx.plain ?_)
   iterate 3 (refine Av F ?_; intro A F)
   refine Zv F (Bn (iU (a <<< i).toNat) F rfl rfl rfl (i_shl64 a i (by omega) _)) fun A F => ?_
   refine Zv F (Bn (uN (((Gf.wd a b i).2) ^^^ (a <<< i))) F rfl rfl rfl (i_xor64 ((Gf.wd a b i).2) (a <<< i))) fun A F => ?_
   refine Av F fun A F => ?_
   refine Sx.nil (hK7 _ _ (Sx.plain ?_))
   refine Zv F (Bn (iI (i + 1 : Nat)) F rfl rfl rfl (i_addN rfl (in_i64 _ (by omega)))) fun A F => ?_
   refine Av F fun A F => ?_
   refine Sx.nil ?_
   try dsimp only [Exit.then, Exit.noGoto]
   have h1 : (Gf.wd a b i).1 ^^^ a >>> (64 - i) = (Gf.wd a b (i + 1)).1 := by rw [hs]
   have h2 : (Gf.wd a b i).2 ^^^ a <<< i = (Gf.wd a b (i + 1)).2 := by rw [hs]
   rw [h1, h2] at F
   exact ⟨64 - (i + 1), by omega, i + 1, rfl, by omega, F.to ⟨rfl, rfl, rfl, rfl, rfl, trivial⟩, H⟩
  ·have hs : Gf.wd a b (i + 1) = _ := if_neg hb
   refine Sp fun _ kk => ?_
   iterate 2 (refine Av F ?_; intro A F)
   refine Zv F (Bn (iU (b >>> i).toNat) F rfl rfl rfl (i_shr64 b i (by omega) _)) fun A F => ?_
   refine Zv F (Bn (iU (b >>> i &&& 1#64).toNat) F rfl rfl rfl (i_and64 (b >>> i) 1#64)) fun A F => ?_
   refine Zv F (Bn bF F rfl rfl rfl (i_eq (beq_false_of_ne (fun e => hb (BitVec.eq_of_toNat_eq (Int.ofNat.inj e)))))) fun A F => ?_
   refine Nl kk (condF F rfl (wp_skip (hK7 _ _ (Sx.plain ?_))))
   refine Zv F (Bn (iI (i + 1 : Nat)) F rfl rfl rfl (i_addN rfl (in_i64 _ (by omega)))) fun A F => ?_
   refine Av F fun A F => ?_
   refine Sx.nil ?_
   try dsimp only [Exit.then, Exit.noGoto]
   rw [← hs] at F
   exact ⟨64 - (i + 1), by omega, i + 1, rfl, by omega, F.to ⟨rfl, rfl, rfl, rfl, rfl, trivial⟩, H⟩
 ·have hie_i : i = 64 := by omega
  rw [hie_i] at F
  try rw [hie_i] at H
  refine Sp fun _ kk => Av F fun A F => ?_
  refine Nl kk (Sx.seq fun K13 hK13 => condF F rfl (wp_exit ?_))
  try dsimp only [Exit.then, Exit.jump, Exit.noGoto]
  refine exit_here (hK3 _ _ (Sp fun _ kk => ?_))
  iterate 4 (refine Av F ?_; intro A F)
  refine Nl kk ?_
  refine Wr (ret2 F Tryz.results238 (res_tmp F rfl) (res_tmp F rfl) (An ?_ H.below))
  rfl
open Sx in
theorem gmul_1 (la : List (BitVec 64)) (ada : Option Addr) (capa : Nat) (lb : List (BitVec 64)) (adb : Option Addr) (capb : Nat) (hs : la.length + lb.length ≤ 800000) (w0 : World) (hra : Gf.Rd w0 (.slice ada la.length capa) la) (hrb : Gf.Rd w0 (.slice adb lb.length capb) lb) : Calls Tryz.prog 234 #[.slice ada la.length capa, .slice adb lb.length capb] w0 fun e w' => ∃ v, e = .returned (v) ∧ w'.ownsRow w0.heap.size 22 1 v (Gf.ws (Gf.clm (Gf.val la) (Gf.val lb))).length (Gf.cells (Gf.ws (Gf.clm (Gf.val la) (Gf.val lb)))) ∧ Below w0.heap.size w0 w' := by
 have fewa := hra.few
 have fewb := hrb.few
 have hca := hra.at
 have hcb := hrb.at
 have hval : Gf.val (Gf.mulRows la lb la.length) = Gf.clm (Gf.val la) (Gf.val lb) := by rw [Gf.mulRows_val la lb _ (Nat.le_refl _), List.take_length]
 refine En Tryz.func234 Tryz.ntmps234 fun A F => ?_
 have H := Sx.Own.start w0
 refine Sp fun _ kk => Av F fun A F => ?_
 refine Nl kk (wp_scope_straight (Sp fun _ kk => Av F fun A F => ?_))
 refine Zv F (d_lenS el_274 F rfl rfl) fun A F => ?_
 refine Av F fun A F => ?_
 refine Zv F (d_lenS el_274 F rfl rfl) fun A F => ?_
 refine Zv F (Bn (iI (la.length + lb.length : Nat)) F rfl rfl rfl (i_addN rfl (in_i64 _ (by omega)))) fun A F => ?_
 refine Zr (mk := fun v => v) F (d_make (m := (la.length + lb.length : Nat)) Sx.undPoly Sx.infU64 rfl F H rfl (rfl) (rfl) (by omega) (by omega)) fun v1 A w F (H : Sx.Own w0 _ [] [⟨true, v1, 22, 1, (la.length + lb.length : Nat), (List.replicate (la.length + lb.length : Nat) (iU 0))⟩]) => ?_
 refine Av F fun A F => ?_
 refine Sx.nil ?_
 rw [Gf.cells_rep, show List.replicate (la.length + lb.length) 0#64 = Gf.mulRows la lb 0 from rfl] at H
 refine kk _ _ ?_
 refine Sx.seq fun K3 hK3 => wp_label (hK3 _ _ (Sx.seq fun K4 hK4 => Sp fun _ kk => Av F fun A F => ?_))
 refine Zv F (d_lenS el_274 F rfl rfl) fun A F => ?_
 refine Av F fun A F => ?_
 refine Nl kk (wp_block (loop (fun q A w => ∃ (i : Nat) (u : Value), q = la.length - i ∧ i ≤ la.length ∧ Fr 63 A [(0, .slice ada la.length capa), (1, .slice adb lb.length capb), (18, .slice ada la.length capa), (19, iI la.length), (5, u), (20, iI i)] ∧ Sx.Own w0 w [] [⟨true, u, 22, 1, (la.length + lb.length), (Gf.cells (Gf.mulRows la lb i))⟩]) (la.length - 0) ⟨0, v1, rfl, Nat.zero_le _, F.to ⟨rfl, rfl, rfl, rfl, rfl, rfl, trivial⟩, H⟩ ?_))
 rintro q A w ⟨i, u, rfl, hi_i, F, H⟩
 by_cases hlt_i : i < la.length
 ·skip
  obtain ⟨xa, hxa⟩ := Gf.some_of (l := la) (k := i) (by omega)
  obtain ⟨ga, oa, hada, hcella⟩ := hca i xa hxa
  have e0 := Gf.getD_of hxa
  refine Sp fun _ kk => Zv F (Bn bT F rfl rfl rfl (i_lt (decide_eq_true (by omega)))) fun A F => ?_
  refine Nl kk (Sx.seq fun K7 hK7 => condT F rfl (wp_skip (hK7 _ _ (Sx.seq fun K8 hK8 => wp_block (Sp fun _ kk => Av F fun A F => ?_)))))
  refine Zv F (d_ix1 (k := i) (g := ga) (off := oa) el_274 F rfl rfl hada rfl (rfl) (by omega)) fun A F => ?_
  refine Zv F (d_loadF one_22 F H rfl rfl hcella) fun A F => ?_
  iterate 2 (refine Av F ?_; intro A F)
  refine Nl kk (Sp fun _ kk => Av F fun A F => ?_)
  refine Zv F (d_lenS el_274 F rfl rfl) fun A F => ?_
  refine Av F fun A F => ?_
  refine Nl kk (wp_block ?_)
  by_cases hx0 : xa.toNat = 0
  ·have hs : Gf.mulRows la lb (i + 1) = Gf.mulRows la lb i := by rw [Gf.mulRows_succ, if_pos (by rw [e0]; exact BitVec.eq_of_toNat_eq hx0)]
   by_cases hl0 : 0 < lb.length
   ·obtain ⟨xb, hxb⟩ := Gf.some_of (l := lb) (k := 0) (by omega)
    obtain ⟨gb, ob, hadb, hcellb⟩ := hcb 0 xb hxb
    refine wp_loop_rounds 1 ?_
    refine Rs ?_
    refine Sp fun _ kk => Zv F (Bn bT F rfl rfl rfl (i_lt (decide_eq_true (by omega)))) fun A F => ?_
    refine Nl kk (Sx.seq fun K12 hK12 => condT F rfl (wp_skip (hK12 _ _ (Sx.seq fun K13 hK13 => wp_block (Sp fun _ kk => Av F fun A F => ?_)))))
    refine Zv F (d_ix1 (k := 0) (g := gb) (off := ob) el_274 F rfl rfl hadb rfl (rfl) (by omega)) fun A F => ?_
    refine Zv F (d_loadF one_22 F H rfl rfl hcellb) fun A F => ?_
    iterate 2 (refine Av F ?_; intro A F)
    refine Nl kk (Sx.seq fun K15 hK15 => Sp fun _ kk => Av F fun A F => ?_)
    refine Zv F (Bn bT F rfl rfl rfl (i_eq (by rw [hx0]; rfl))) fun A F => ?_
    refine Nl kk (condT F rfl (wp_exit ?_))
    try dsimp only [Exit.then, Exit.jump, Exit.noGoto]
    refine exit_past (by decide) ?_
    try dsimp only [Exit.then, Exit.jump, Exit.noGoto]
    refine exit_past (by decide) ?_
    try dsimp only [Exit.then, Exit.jump, Exit.noGoto]
    refine exit_here (hK8 _ _ (Sx.plain ?_))
    refine Zv F (Bn (iI (i + 1 : Nat)) F rfl rfl rfl (i_addN rfl (in_i64 _ (by omega)))) fun A F => ?_
    refine Av F fun A F => ?_
    refine Sx.nil ?_
    try dsimp only [Exit.then, Exit.noGoto]
    rw [← hs] at H
    exact ⟨la.length - (i + 1), by omega, i + 1, u, rfl, by omega, F.to ⟨rfl, rfl, rfl, rfl, rfl, rfl, trivial⟩, H⟩
   ·skip
    refine wp_loop_rounds 1 ?_
    refine Rs ?_
    refine Sp fun _ kk => Zv F (Bn bF F rfl rfl rfl (i_lt (decide_eq_false (by omega)))) fun A F => ?_
    refine Nl kk (Sx.seq fun K18 hK18 => condF F rfl (wp_exit ?_))
    try dsimp only [Exit.then, Exit.jump, Exit.noGoto]
    refine exit_here (hK8 _ _ (Sx.plain ?_))
    refine Zv F (Bn (iI (i + 1 : Nat)) F rfl rfl rfl (i_addN rfl (in_i64 _ (by omega)))) fun A F => ?_
    refine Av F fun A F => ?_
    refine Sx.nil ?_
    try dsimp only [Exit.then, Exit.noGoto]
    rw [← hs] at H
    exact ⟨la.length - (i + 1), by omega, i + 1, u, rfl, by omega, F.to ⟨rfl, rfl, rfl, rfl, rfl, rfl, trivial⟩, H⟩
  ·have hs : Gf.mulRows la lb (i + 1) = Gf.mulRow lb xa i lb.length (Gf.mulRows la lb i) := by rw [Gf.mulRows_succ, e0, if_neg (fun e => hx0 (by rw [e]; rfl))]
   refine loop (fun q A w => ∃ (k : Nat) (u2 : Value), q = lb.length - k ∧ k ≤ lb.length ∧ Fr 63 A [(0, .slice ada la.length capa), (1, .slice adb lb.length capb), (6, iI i), (7, uN xa), (18, .slice ada la.length capa), (19, iI la.length), (20, iI i), (25, .slice adb lb.length capb), (26, iI lb.length), (5, u2), (27, iI k)] ∧ Sx.Own w0 w [] [⟨true, u2, 22, 1, (la.length + lb.length), (Gf.cells (Gf.mulRow lb xa i k (Gf.mulRows la lb i)))⟩]) (lb.length - 0) ⟨0, u, rfl, Nat.zero_le _, F.to ⟨rfl, rfl, rfl, rfl, rfl, rfl, rfl, rfl, rfl, rfl, rfl, trivial⟩, H⟩ ?_
   rintro q A w ⟨k, u2, rfl, hi_k, F, H⟩
   by_cases hlt_k : k < lb.length
   ·skip
    obtain ⟨xb, hxb⟩ := Gf.some_of (l := lb) (k := k) (by omega)
    obtain ⟨gb, ob, hadb, hcellb⟩ := hcb k xb hxb
    have e1 := Gf.getD_of hxb
    have Fcur := F
    have Hcur := H
    obtain ⟨lg, lc, rfl, hc1_lg, hc2_lg⟩ := Hcur.open (i := 0) rfl (by omega)
    have F := Fcur
    have H := Hcur
    obtain ⟨out, hout⟩ : ∃ q, Gf.mulRow lb xa i k (Gf.mulRows la lb i) = q := ⟨_, rfl⟩
    have hlo : out.length = la.length + lb.length := by rw [← hout, Gf.mulRow_len, Gf.mulRows_len]
    rw [hout] at H
    obtain ⟨y, hy⟩ := Gf.some_of (l := out) (k := i + k) (by omega)
    have ey := Gf.getD_of hy
    refine Sp fun _ kk => Zv F (Bn bT F rfl rfl rfl (i_lt (decide_eq_true (by omega)))) fun A F => ?_
    refine Nl kk (Sx.seq fun K20 hK20 => condT F rfl (wp_skip (hK20 _ _ (Sx.seq fun K21 hK21 => wp_block (Sp fun _ kk => Av F fun A F => ?_)))))
    refine Zv F (d_ix1 (k := k) (g := gb) (off := ob) el_274 F rfl rfl hadb rfl (rfl) (by omega)) fun A F => ?_
    refine Zv F (d_loadF one_22 F H rfl rfl hcellb) fun A F => ?_
    iterate 2 (refine Av F ?_; intro A F)
    refine Nl kk (Sx.seq fun K23 hK23 => Sp fun _ kk => Av F fun A F => ?_)
    refine Zv F (Bn bF F rfl rfl rfl (i_eq (beq_false_of_ne (by omega)))) fun A F => ?_
    refine Nl kk (condF F rfl (wp_skip (hK23 _ _ (Sp fun _ kk => ?_))))
    iterate 2 (refine Av F ?_; intro A F)
    refine Zw F (Dc if_238 F H (gwords_c xa xb _)) fun A w F H => ?_
    iterate 5 (refine Av F ?_; intro A F)
    refine Nl kk (Sp fun _ kk => ?_)
    iterate 3 (refine Av F ?_; intro A F)
    refine Zv F (Bn (iI (i + k : Nat)) F rfl rfl rfl (i_addN rfl (in_i64 _ (by omega)))) fun A F => ?_
    refine Zv F (d_ixR (k := (i + k)) el_274 F rfl rfl rfl (rfl) (by omega)) fun A F => ?_
    refine Zv F (d_loadR (i := 0) (v := uN y) one_22 F H rfl rfl rfl (Gf.cells_at hy)) fun A F => ?_
    refine Av F fun A F => ?_
    refine Zv F (Bn (uN (y ^^^ ((Gf.wd xa xb 64).2))) F rfl rfl rfl (i_xor64 y ((Gf.wd xa xb 64).2))) fun A F => ?_
    refine Zv F (d_ixR (k := (i + k)) el_274 F rfl rfl rfl (rfl) (by omega)) fun A F => ?_
    refine Zt F (d_storeR (i := 0) (k := (i + k)) sz_22 F H rfl rfl rfl rfl rfl rfl (by omega)) fun A w F (H : Sx.Own w0 _ [] [⟨true, sL lg 0 (la.length + lb.length) lc, 22, 1, (la.length + lb.length), ((Gf.cells out).set (i + k) (uN (y ^^^ ((Gf.wd xa xb 64).2))))⟩]) => ?_
    refine Sx.nil ?_
    rw [Gf.cells_set] at H
    obtain ⟨z, hz⟩ := Gf.some_of (l := out.set (i + k) (y ^^^ (Gf.wd xa xb 64).2)) (k := i + k + 1) (by rw [List.length_set]; omega)
    have ez := Gf.getD_of hz
    refine kk _ _ ?_
    refine Sx.plain ?_
    iterate 3 (refine Av F ?_; intro A F)
    refine Zv F (Bn (iI (i + k : Nat)) F rfl rfl rfl (i_addN rfl (in_i64 _ (by omega)))) fun A F => ?_
    refine Zv F (Bn (iI (i + k + 1 : Nat)) F rfl rfl rfl (i_addN rfl (in_i64 _ (by omega)))) fun A F => ?_
    refine Zv F (d_ixR (k := (i + k + 1)) el_274 F rfl rfl rfl (rfl) (by omega)) fun A F => ?_
    refine Zv F (d_loadR (i := 0) (v := uN z) one_22 F H rfl rfl rfl (Gf.cells_at hz)) fun A F => ?_
    refine Av F fun A F => ?_
    refine Zv F (Bn (uN (z ^^^ ((Gf.wd xa xb 64).1))) F rfl rfl rfl (i_xor64 z ((Gf.wd xa xb 64).1))) fun A F => ?_
    refine Zv F (d_ixR (k := (i + k + 1)) el_274 F rfl rfl rfl (rfl) (by omega)) fun A F => ?_
    refine Zt F (d_storeR (i := 0) (k := (i + k + 1)) sz_22 F H rfl rfl rfl rfl rfl rfl (by omega)) fun A w F (H : Sx.Own w0 _ [] [⟨true, sL lg 0 (la.length + lb.length) lc, 22, 1, (la.length + lb.length), ((Gf.cells (out.set (i + k) (y ^^^ (Gf.wd xa xb 64).2))).set (i + k + 1) (uN (z ^^^ ((Gf.wd xa xb 64).1))))⟩]) => ?_
    refine Sx.nil (hK21 _ _ (Sx.plain ?_))
    refine Zv F (Bn (iI (k + 1 : Nat)) F rfl rfl rfl (i_addN rfl (in_i64 _ (by omega)))) fun A F => ?_
    refine Av F fun A F => ?_
    refine Sx.nil ?_
    try dsimp only [Exit.then, Exit.noGoto]
    have hrow : Gf.mulRow lb xa i (k + 1) (Gf.mulRows la lb i) = (out.set (i + k) (y ^^^ (Gf.wd xa xb 64).2)).set (i + k + 1) (z ^^^ (Gf.wd xa xb 64).1) := by show Gf.addw _ _ _ _ = _; rw [e1, hout]; unfold Gf.addw; rw [ey, ez]
    rw [Gf.cells_set, ← hrow] at H
    exact ⟨lb.length - (k + 1), by omega, k + 1, (sL lg 0 (la.length + lb.length) lc), rfl, by omega, F.to ⟨rfl, rfl, rfl, rfl, rfl, rfl, rfl, rfl, rfl, rfl, rfl, trivial⟩, H⟩
   ·have hie_k : k = lb.length := by omega
    rw [hie_k] at F
    try rw [hie_k] at H
    refine Sp fun _ kk => Zv F (Bn bF F rfl rfl rfl (i_lt (by simp))) fun A F => ?_
    refine Nl kk (Sx.seq fun K28 hK28 => condF F rfl (wp_exit ?_))
    try dsimp only [Exit.then, Exit.jump, Exit.noGoto]
    refine exit_here (hK8 _ _ (Sx.plain ?_))
    refine Zv F (Bn (iI (i + 1 : Nat)) F rfl rfl rfl (i_addN rfl (in_i64 _ (by omega)))) fun A F => ?_
    refine Av F fun A F => ?_
    refine Sx.nil ?_
    try dsimp only [Exit.then, Exit.noGoto]
    rw [← hs] at H
    exact ⟨la.length - (i + 1), by omega, i + 1, u2, rfl, by omega, F.to ⟨rfl, rfl, rfl, rfl, rfl, rfl, trivial⟩, H⟩
 ·have hie_i : i = la.length := by omega
  rw [hie_i] at F
  try rw [hie_i] at H
  refine Sp fun _ kk => Zv F (Bn bF F rfl rfl rfl (i_lt (by simp))) fun A F => ?_
  refine Nl kk (Sx.seq fun K30 hK30 => condF F rfl (wp_exit ?_))
  try dsimp only [Exit.then, Exit.jump, Exit.noGoto]
  refine exit_here (hK4 _ _ (Sp fun _ kk => Av F fun A F => ?_))
  refine Zr (mk := fun v => v) F (d_callR (vs := [u]) (mk := fun v => v) if_214 F H rfl rfl (gown_c _ (Gf.mulRows la lb la.length) (Gf.val (Gf.mulRows la lb la.length)) rfl _ (Gf.Rd.row (H.row 0 _ rfl rfl) (Gf.mulRows_len _ _ _).symm rfl (by rw [Gf.mulRows_len]; omega)))) fun v2 A w F (H : Sx.Own w0 _ [] [⟨true, v2, 22, 1, (Gf.ws (Gf.val (Gf.mulRows la lb la.length))).length, (Gf.cells (Gf.ws (Gf.val (Gf.mulRows la lb la.length))))⟩, ⟨true, u, 22, 1, (la.length + lb.length), (Gf.cells (Gf.mulRows la lb la.length))⟩]) => ?_
  refine Av F fun A F => ?_
  refine Nl kk (Wr (ret1 F Tryz.results234 (res_tmp F rfl) ?_))
  rw [hval] at H
  exact ⟨_, rfl, H.row 0 _ rfl rfl, H.below⟩
theorem gmul_c  (va : Value) (vb : Value) (la : List (BitVec 64)) (lb : List (BitVec 64)) (Pa : Nat) (Pb : Nat) (hpa : Gf.val la = Pa) (hpb : Gf.val lb = Pb) (hs : la.length + lb.length ≤ 800000) (w : World) (ha : Gf.Rd w va la) (hb : Gf.Rd w vb lb) : Calls Tryz.prog 234 #[va, vb] w fun e w' => ∃ v, e = .returned (v) ∧ w'.ownsRow w.heap.size 22 1 v (Gf.ws (Gf.clm Pa Pb)).length (Gf.cells (Gf.ws (Gf.clm Pa Pb))) ∧ Below w.heap.size w w' := by
 obtain ⟨ada, capa, rfl⟩ := ha.form
 subst hpa
 obtain ⟨adb, capb, rfl⟩ := hb.form
 subst hpb
 exact gmul_1  la ada capa lb adb capb hs w ha hb
open Sx in
theorem gsquare_1 (la : List (BitVec 64)) (ada : Option Addr) (capa : Nat) (hs : la.length + la.length ≤ 800000) (w0 : World) (hra : Gf.Rd w0 (.slice ada la.length capa) la) : Calls Tryz.prog 233 #[.slice ada la.length capa] w0 fun e w' => ∃ v, e = .returned (v) ∧ w'.ownsRow w0.heap.size 22 1 v (Gf.ws (Gf.clm (Gf.val la) (Gf.val la))).length (Gf.cells (Gf.ws (Gf.clm (Gf.val la) (Gf.val la)))) ∧ Below w0.heap.size w0 w' := by
 have fewa := hra.few
 have hca := hra.at
 have hval : Gf.val (Gf.sqf la la.length) = Gf.clm (Gf.val la) (Gf.val la) := by rw [Gf.sqf_all, Gf.sqw_val]
 refine En Tryz.func233 Tryz.ntmps233 fun A F => ?_
 have H := Sx.Own.start w0
 refine Sp fun _ kk => Av F fun A F => ?_
 refine Nl kk (Sp fun _ kk => Av F fun A F => ?_)
 refine Zv F (d_lenS el_274 F rfl rfl) fun A F => ?_
 refine Zv F (Bn (iI (2 * la.length : Nat)) F rfl rfl rfl (i_mulN rfl (in_i64 _ (by omega)))) fun A F => ?_
 refine Zr (mk := fun v => v) F (d_make (m := (2 * la.length : Nat)) Sx.undPoly Sx.infU64 rfl F H rfl (rfl) (rfl) (by omega) (by omega)) fun v1 A w F (H : Sx.Own w0 _ [] [⟨true, v1, 22, 1, (2 * la.length : Nat), (List.replicate (2 * la.length : Nat) (iU 0))⟩]) => ?_
 refine Av F fun A F => ?_
 refine Sx.nil ?_
 rw [Gf.cells_rep, Gf.sqf_zero la] at H
 refine kk _ _ ?_
 refine Sx.seq fun K3 hK3 => Sp fun _ kk => Av F fun A F => ?_
 refine Zv F (d_lenS el_274 F rfl rfl) fun A F => ?_
 refine Av F fun A F => ?_
 refine Nl kk (wp_block (loop (fun q A w => ∃ (i : Nat) (u : Value), q = la.length - i ∧ i ≤ la.length ∧ Fr 35 A [(0, .slice ada la.length capa), (10, .slice ada la.length capa), (11, iI la.length), (3, u), (12, iI i)] ∧ Sx.Own w0 w [] [⟨true, u, 22, 1, (2 * la.length), (Gf.cells (Gf.sqf la i))⟩]) (la.length - 0) ⟨0, v1, rfl, Nat.zero_le _, F.to ⟨rfl, rfl, rfl, rfl, rfl, trivial⟩, H⟩ ?_))
 rintro q A w ⟨i, u, rfl, hi_i, F, H⟩
 by_cases hlt_i : i < la.length
 ·skip
  obtain ⟨xa, hxa⟩ := Gf.some_of (l := la) (k := i) (by omega)
  obtain ⟨ga, oa, hada, hcella⟩ := hca i xa hxa
  have Fcur := F
  have Hcur := H
  obtain ⟨lg, lc, rfl, hc1_lg, hc2_lg⟩ := Hcur.open (i := 0) rfl (by omega)
  have F := Fcur
  have H := Hcur
  refine Sp fun _ kk => Zv F (Bn bT F rfl rfl rfl (i_lt (decide_eq_true (by omega)))) fun A F => ?_
  refine Nl kk (Sx.seq fun K6 hK6 => condT F rfl (wp_skip (hK6 _ _ (Sx.seq fun K7 hK7 => wp_block (Sp fun _ kk => Av F fun A F => ?_)))))
  refine Zv F (d_ix1 (k := i) (g := ga) (off := oa) el_274 F rfl rfl hada rfl (rfl) (by omega)) fun A F => ?_
  refine Zv F (d_loadF one_22 F H rfl rfl hcella) fun A F => ?_
  iterate 2 (refine Av F ?_; intro A F)
  refine Nl kk (Sx.plain ?_)
  iterate 2 (refine Av F ?_; intro A F)
  refine Zv F (Bn (iI (2 * i : Nat)) F rfl rfl rfl (i_mulN rfl (in_i64 _ (by omega)))) fun A F => ?_
  refine Zv F (Bn (iI (2 * i + 1 : Nat)) F rfl rfl rfl (i_addN rfl (in_i64 _ (by omega)))) fun A F => ?_
  iterate 2 (refine Av F ?_; intro A F)
  refine Zv F (Bn (iI (2 * i : Nat)) F rfl rfl rfl (i_mulN rfl (in_i64 _ (by omega)))) fun A F => ?_
  iterate 2 (refine Av F ?_; intro A F)
  refine Zw F (Dc if_238 F H (gwords_c xa xa _)) fun A w F H => ?_
  iterate 3 (refine Av F ?_; intro A F)
  refine Zv F (d_ixR (k := (2 * i + 1)) el_274 F rfl rfl rfl (rfl) (by omega)) fun A F => ?_
  refine Zt F (d_storeR (i := 0) (k := (2 * i + 1)) sz_22 F H rfl rfl rfl rfl rfl rfl (by omega)) fun A w F (H : Sx.Own w0 _ [] [⟨true, sL lg 0 (2 * la.length) lc, 22, 1, (2 * la.length), ((Gf.cells (Gf.sqf la i)).set (2 * i + 1) (iU ((Gf.wd xa xa 64).1.toNat)))⟩]) => ?_
  refine Zv F (d_ixR (k := (2 * i)) el_274 F rfl rfl rfl (rfl) (by omega)) fun A F => ?_
  refine Zt F (d_storeR (i := 0) (k := (2 * i)) sz_22 F H rfl rfl rfl rfl rfl rfl (by omega)) fun A w F (H : Sx.Own w0 _ [] [⟨true, sL lg 0 (2 * la.length) lc, 22, 1, (2 * la.length), (((Gf.cells (Gf.sqf la i)).set (2 * i + 1) (iU ((Gf.wd xa xa 64).1.toNat))).set (2 * i) (iU ((Gf.wd xa xa 64).2.toNat)))⟩]) => ?_
  refine Sx.nil (hK7 _ _ (Sx.plain ?_))
  refine Zv F (Bn (iI (i + 1 : Nat)) F rfl rfl rfl (i_addN rfl (in_i64 _ (by omega)))) fun A F => ?_
  refine Av F fun A F => ?_
  refine Sx.nil ?_
  try dsimp only [Exit.then, Exit.noGoto]
  rw [Gf.cells_set, Gf.cells_set, Gf.sq_set hxa] at H
  exact ⟨la.length - (i + 1), by omega, i + 1, (sL lg 0 (2 * la.length) lc), rfl, by omega, F.to ⟨rfl, rfl, rfl, rfl, rfl, trivial⟩, H⟩
 ·have hie_i : i = la.length := by omega
  rw [hie_i] at F
  try rw [hie_i] at H
  refine Sp fun _ kk => Zv F (Bn bF F rfl rfl rfl (i_lt (by simp))) fun A F => ?_
  refine Nl kk (Sx.seq fun K10 hK10 => condF F rfl (wp_exit ?_))
  try dsimp only [Exit.then, Exit.jump, Exit.noGoto]
  refine exit_here (hK3 _ _ (Sp fun _ kk => Av F fun A F => ?_))
  refine Zr (mk := fun v => v) F (d_callR (vs := [u]) (mk := fun v => v) if_214 F H rfl rfl (gown_c _ (Gf.sqf la la.length) (Gf.val (Gf.sqf la la.length)) rfl _ (Gf.Rd.row (H.row 0 _ rfl rfl) (Gf.sqf_len la (Nat.le_refl _)).symm rfl (by rw [Gf.sqf_len la (Nat.le_refl _)]; omega)))) fun v2 A w F (H : Sx.Own w0 _ [] [⟨true, v2, 22, 1, (Gf.ws (Gf.val (Gf.sqf la la.length))).length, (Gf.cells (Gf.ws (Gf.val (Gf.sqf la la.length))))⟩, ⟨true, u, 22, 1, (2 * la.length), (Gf.cells (Gf.sqf la la.length))⟩]) => ?_
  refine Av F fun A F => ?_
  refine Nl kk (Wr (ret1 F Tryz.results233 (res_tmp F rfl) ?_))
  rw [hval] at H
  exact ⟨_, rfl, H.row 0 _ rfl rfl, H.below⟩
theorem gsquare_c  (va : Value) (la : List (BitVec 64)) (Pa : Nat) (hpa : Gf.val la = Pa) (hs : la.length + la.length ≤ 800000) (w : World) (ha : Gf.Rd w va la) : Calls Tryz.prog 233 #[va] w fun e w' => ∃ v, e = .returned (v) ∧ w'.ownsRow w.heap.size 22 1 v (Gf.ws (Gf.clm Pa Pa)).length (Gf.cells (Gf.ws (Gf.clm Pa Pa))) ∧ Below w.heap.size w w' := by
 obtain ⟨ada, capa, rfl⟩ := ha.form
 subst hpa
 exact gsquare_1  la ada capa hs w ha
open Sx in
theorem glift_1 (n : Nat) (hn : n ≤ 2048) (la : List (BitVec 64)) (ada : Option Addr) (capa : Nat) (hs : la.length ≤ 800000) (w0 : World) (hra : Gf.Rd w0 (.slice ada la.length capa) la) : Calls Tryz.prog 239 #[.slice ada la.length capa, iI n] w0 fun e w' => ∃ v, e = .returned (v) ∧ w'.ownsRow w0.heap.size 22 1 v (Gf.ws (Gf.val la <<< n)).length (Gf.cells (Gf.ws (Gf.val la <<< n))) ∧ Below w0.heap.size w0 w' := by
 have fewa := hra.few
 have hca := hra.at
 refine En Tryz.func239 Tryz.ntmps239 fun A F => ?_
 have H := Sx.Own.start w0
 refine Sp fun _ kk => Av F fun A F => ?_
 refine Nl kk (Sx.seq fun K2 hK2 => wp_block (wp_loop_rounds 1 ?_))
 refine Rs ?_
 refine Sx.seq fun K3 hK3 => Sp fun _ kk => Av F fun A F => ?_
 refine Zv F (Bn bF F rfl rfl rfl (i_gt (decide_eq_false (by omega)))) fun A F => ?_
 refine Nl kk (condF F rfl (wp_exit ?_))
 try dsimp only [Exit.then, Exit.jump, Exit.noGoto]
 refine exit_here (hK2 _ _ (Sp fun _ kk => ?_))
 iterate 2 (refine Av F ?_; intro A F)
 refine Zr (mk := fun v => v) F (d_callR (vs := [.slice ada la.length capa, iI n]) (mk := fun v => v) if_225 F H rfl rfl (gup_c n (by omega) _ la (Gf.val la) rfl (by omega) _ ((hra).below H.below))) fun v1 A w F H => ?_
 refine Av F fun A F => ?_
 refine Nl kk (Wr (ret1 F Tryz.results239 (res_tmp F rfl) ?_))
 exact ⟨_, rfl, H.row 0 _ rfl rfl, H.below⟩
theorem glift_c (n : Nat) (hn : n ≤ 2048) (va : Value) (la : List (BitVec 64)) (Pa : Nat) (hpa : Gf.val la = Pa) (hs : la.length ≤ 800000) (w : World) (ha : Gf.Rd w va la) : Calls Tryz.prog 239 #[va, iI n] w fun e w' => ∃ v, e = .returned (v) ∧ w'.ownsRow w.heap.size 22 1 v (Gf.ws (Pa <<< n)).length (Gf.cells (Gf.ws (Pa <<< n))) ∧ Below w.heap.size w w' := by
 obtain ⟨ada, capa, rfl⟩ := ha.form
 subst hpa
 exact glift_1 n hn la ada capa hs w ha
open Sx in
theorem gparts_1 (la : List (BitVec 64)) (ada : Option Addr) (capa : Nat) (lb : List (BitVec 64)) (adb : Option Addr) (capb : Nat) (hsa : la.length ≤ 30) (hsb : lb.length ≤ 30) (hq : Gf.val lb ≠ 0) (w0 : World) (hra : Gf.Rd w0 (.slice ada la.length capa) la) (hrb : Gf.Rd w0 (.slice adb lb.length capb) lb) : Calls Tryz.prog 237 #[.slice ada la.length capa, .slice adb lb.length capb] w0 fun e w' => ∃ (qa : Option Addr) (qm qc : Nat) (v : Value), e = .returned (.agg #[.slice qa qm qc, v]) ∧ w'.ownsRow w0.heap.size 22 1 v (Gf.ws (Gf.md (Gf.val la) (Gf.val lb))).length (Gf.cells (Gf.ws (Gf.md (Gf.val la) (Gf.val lb)))) ∧ Below w0.heap.size w0 w' := by
 have fewa := hra.few
 have fewb := hrb.few
 have hca := hra.at
 have hcb := hrb.at
 have hla : Gf.val la < Gf.lim 30 := Gf.len_lim hsa
 have hlb : Gf.val lb < Gf.lim 30 := Gf.len_lim hsb
 refine En Tryz.func237 Tryz.ntmps237 fun A F => ?_
 have H := Sx.Own.start w0
 refine Sp fun _ kk => Zb F (d_alloc H rfl [nS, nS] zero_307) fun g1 A w F H => ?_
 refine Nl kk (Sp fun _ kk => Av F fun A F => ?_)
 refine Zr (mk := fun v => v) F (d_callR (vs := [.slice ada la.length capa]) (mk := fun v => v) if_214 F H rfl rfl (gown_c _ la (Gf.val la) rfl _ ((hra).below H.below))) fun v1 A w F H => ?_
 refine Zv F (d_build (qs := #[(0, nS), (1, v1)]) (v := .agg #[nS, v1]) F rfl rfl (by obtain ⟨_, _, hv⟩ := Sx.len_of (k := (Gf.ws (Gf.val la)).length) (v := v1) (rowEq (H.row 0 _ rfl rfl) rfl rfl rfl rfl rfl); rw [hv]; kernel_rfl)) fun A F => ?_
 refine Zb F (d_alloc H rfl [nS, nS] zero_307) fun g2 A w F H => ?_
 refine Zt F (d_store (i := 0) (xs := [nS, v1]) (us := [nS, v1]) sz_307 F H rfl rfl rfl (rfl) rfl (by obtain ⟨_, _, hv0⟩ := Sx.len_of (k := (Gf.ws (Gf.val la)).length) (v := v1) (rowEq (H.row 0 _ rfl rfl) rfl rfl rfl rfl rfl); rw [hv0]; rfl) rfl (Nat.le_of_ble_eq_true rfl) rfl) fun A w F H => ?_
 refine Nl kk (Sp fun _ kk => Av F fun A F => ?_)
 refine Zw F (Dc if_209 F H (gdeg_c _ lb (Gf.val lb) rfl _ ((hrb).below H.below))) fun A w F H => ?_
 refine Av F fun A F => ?_
 refine Nl kk (wp_block ?_)
 have H := Sx.Own.nilR H 22 1
 have hz : Gf.ws 0 = [] := Gf.ws_zero
 have H : Sx.Own w0 w [(true, g2, [nS, v1]), (true, g1, [nS, nS])] [⟨true, nS, 22, 1, (Gf.ws 0).length, (Gf.cells (Gf.ws 0))⟩, ⟨true, v1, 22, 1, (Gf.ws (Gf.val la)).length, (Gf.cells (Gf.ws (Gf.val la)))⟩] := by rw [hz]; exact H.to' [0, 1] [0, 1] (by decide) (by decide) rfl rfl
 refine loop (fun m A w => ∃ (r q : Nat) (rv qv : Value), m = r ∧ r < Gf.lim 30 ∧ q < Gf.lim 30 ∧ Gf.dm (Gf.val la) (Gf.val lb) 0 = Gf.dm r (Gf.val lb) q ∧ Fr 35 A [(0, .slice ada la.length capa), (1, .slice adb lb.length capb), (4, pT g1 0), (5, pT g2 0), (6, iI (Gf.deg (Gf.val lb)))] ∧ Sx.Own w0 w [(true, g2, [qv, rv]), (true, g1, [nS, nS])] [⟨true, qv, 22, 1, (Gf.ws q).length, (Gf.cells (Gf.ws q))⟩, ⟨true, rv, 22, 1, (Gf.ws r).length, (Gf.cells (Gf.ws r))⟩]) (Gf.val la) ⟨Gf.val la, 0, v1, nS, rfl, hla, Gf.lim_pos _, rfl, F.to ⟨rfl, rfl, rfl, rfl, rfl, trivial⟩, H⟩ ?_
 rintro m A w ⟨r, q, rv, qv, rfl, hr, hq', hdm, F, H⟩
 have hdr := Gf.lim_deg hr
 have hdb := Gf.lim_deg hlb
 have hdp := Gf.deg_pos hq
 have hlr := Gf.lim_len hr
 have hlq := Gf.lim_len hq'
 refine wp_block (Sp fun _ kk => ?_)
 iterate 2 (refine Av F ?_; intro A F)
 refine Zw F (Dc if_209 F H (gdeg_c _ (Gf.ws m) m (Gf.val_ws _) _ (Gf.Rd.row (H.row 1 _ rfl rfl) rfl rfl (by omega)))) fun A w F H => ?_
 refine Av F fun A F => ?_
 refine Zv F (Bn (iI (((Gf.deg m) : Int) - (Gf.deg (Gf.val lb)))) F rfl rfl rfl (i_subS (in64 _ (by omega)))) fun A F => ?_
 refine Av F fun A F => ?_
 refine Nl kk ?_
 by_cases hd : (Gf.val lb ≠ 0 ∧ m ≠ 0 ∧ (Gf.val lb).log2 ≤ m.log2)
 ·have hn := Gf.deg_diff hd
  have hsm := Gf.lim_red hd hr
  have hlt := Gf.red_lt' hd.1 hd.2.1 hd.2.2
  have hst := Gf.dm_step q hd
  have hlg := Gf.lim_log hd.2.1 hr
  obtain ⟨n, hn'⟩ : ∃ n, m.log2 - (Gf.val lb).log2 = n := ⟨_, rfl⟩
  rw [hn'] at hn hsm hlt hst
  rw [hn] at F
  have hq2 := Gf.lim_xor hq' (Gf.lim_one (n := n) (by omega))
  have hl1 := Gf.lim_len (Gf.lim_one (n := n) (m := 30) (by omega))
  have hl2 := Gf.lim_len (Gf.lim_shl (n := n) (k := 30) hlb (by omega))
  refine Sx.seq fun K5 hK5 => Sp fun _ kk => Av F fun A F => ?_
  refine Zv F (Bn bF F rfl rfl rfl (i_lt (decide_eq_false (by omega)))) fun A F => ?_
  refine Nl kk (condF F rfl (wp_skip (hK5 _ _ (Sx.seq fun K7 hK7 => ?_))))
  have F := F.tq [(0, .slice ada la.length capa), (1, .slice adb lb.length capb), (4, pT g1 0), (5, pT g2 0), (6, iI (Gf.deg (Gf.val lb))), (13, pT g2 1), (14, rv), (15, iI (Gf.deg m)), (16, iI (Gf.deg (Gf.val lb))), (17, iI n), (7, iI n), (18, iI n), (19, bF)] rfl
  refine Dn F [some (pT g2 0), some (qv), none, some (iI n), none, none, some (pT g2 0), none] (fun L A w => ∃ v2 : Value, ∃ v3 : Value, ∃ v4 : Value, (L 2 = true → A.eval (.tmp 23) = v2) ∧ (L 4 = true → A.eval (.tmp 25) = v3) ∧ (L 5 = true → A.eval (.tmp 26) = v4) ∧ Sx.Own w0 w [(true, g2, (cond (L 7) [v4, rv] [qv, rv])), (true, g1, [nS, nS])] [⟨true, qv, 22, 1, (Gf.ws q).length, (Gf.cells (Gf.ws q))⟩, ⟨true, rv, 22, 1, (Gf.ws m).length, (Gf.cells (Gf.ws m))⟩, ⟨L 2, v2, 22, 1, 1, [iU 1]⟩, ⟨L 4, v3, 22, 1, (Gf.ws (1 <<< n)).length, (Gf.cells (Gf.ws (1 <<< n)))⟩, ⟨L 5, v4, 22, 1, (Gf.ws (q ^^^ (1 <<< n))).length, (Gf.cells (Gf.ws (q ^^^ (1 <<< n))))⟩]) ⟨undef, undef, undef, (fun h => by cases h), (fun h => by cases h), (fun h => by cases h), H.drew.pad [] rfl [⟨false, undef, 22, 1, 1, [iU 1]⟩, ⟨false, undef, 22, 1, (Gf.ws (1 <<< n)).length, (Gf.cells (Gf.ws (1 <<< n)))⟩, ⟨false, undef, 22, 1, (Gf.ws (q ^^^ (1 <<< n))).length, (Gf.cells (Gf.ws (q ^^^ (1 <<< n))))⟩] rfl⟩ ?_ ?_
  ·refine ⟨?_, ?_, ?_, ?_, ?_, ?_, ?_, ?_, trivial⟩
   ·intro L A w up hun hd F ⟨v2, v3, v4, p2, p4, p5, H⟩
    have f1 : L 1 = false := up 1 0 rfl hun
    have f5 : L 5 = false := up 5 1 rfl f1
    have f7 : L 7 = false := up 7 0 rfl hun
    have Hj := H; rw [f5, f7] at Hj
    refine step_on rfl (Fd F (fa_307_0.default.h _ _ _)) ?_
    rintro xv w' ⟨hx, rfl⟩
    exact ⟨Cs hx, ⟨v2, v3, v4, Pk p2, Pk p4, Nf f5, H⟩⟩
   ·intro L A w up hun hd F ⟨v2, v3, v4, p2, p4, p5, H⟩
    have f5 : L 5 = false := up 5 1 rfl hun
    have f7 : L 7 = false := up 7 1 rfl hun
    have Hj := H; rw [f5, f7] at Hj
    refine step_on rfl (Ld 0 one_274 F Hj) ?_
    rintro xv w' ⟨hx, rfl⟩
    exact ⟨Cs hx, ⟨v2, v3, v4, Pk p2, Pk p4, Nf f5, H⟩⟩
   ·intro L A w up hun hd F ⟨v2, v3, v4, p2, p4, p5, H⟩
    have f2 : L 2 = false := hun
    have f4 : L 4 = false := up 4 2 rfl hun
    have f5 : L 5 = false := up 5 4 rfl f4
    have f7 : L 7 = false := up 7 2 rfl hun
    rw [f2, f4, f5, f7] at H
    refine step_on rfl (d_litR_at 2 (qs := #[(0, iU 1)]) (cs := #[iU 1]) (E := 22) (z := 1) F H rfl rfl (fun _ => by kernel_rfl) rfl (by decide)) ?_
    rintro xv w' ⟨v', hx, H⟩
    exact ⟨Cn, ⟨v', v3, v4, (fun _ => (Sx.put_same F (by decide) _).trans hx), Nf f4, Nf f5, (by show Sx.Own _ _ _ _; rw [show Inv.add L 2 4 = false from f4, show Inv.add L 2 5 = false from f5, show Inv.add L 2 7 = false from f7]; exact H)⟩⟩
   ·intro L A w up hun hd F ⟨v2, v3, v4, p2, p4, p5, H⟩
    have f4 : L 4 = false := up 4 3 rfl hun
    have f5 : L 5 = false := up 5 4 rfl f4
    have f7 : L 7 = false := up 7 3 rfl hun
    have Hj := H; rw [f4, f5, f7] at Hj
    refine step_on rfl (d_move F (Or.inl rfl) rfl) ?_
    rintro xv w' ⟨hx, rfl⟩
    exact ⟨Cs hx, ⟨v2, v3, v4, Pk p2, Nf f4, Nf f5, H⟩⟩
   ·intro L A w up hun hd F ⟨v2, v3, v4, p2, p4, p5, H⟩
    have t2 : L 2 = true := hd 2 rfl
    have f4 : L 4 = false := hun
    have f5 : L 5 = false := up 5 4 rfl hun
    have f7 : L 7 = false := up 7 4 rfl hun
    rw [t2, f4, f5, f7] at H
    have F := Fr.add F (p2 t2)
    refine step_on rfl (d_callR_at 3 (vs := [v2, iI n]) (mk := fun v => v) if_239 F H rfl rfl (glift_c n (by omega) _ ([1#64]) 1 rfl (by decide) _ (Gf.Rd.row (H.row 2 _ rfl rfl) rfl rfl (by decide)))) ?_
    rintro xv w' ⟨v', hx, H⟩
    exact ⟨Cn, ⟨v2, v', v4, Pk p2, (fun _ => (Sx.put_same F (by decide) _).trans hx), Nf f5, (by show Sx.Own _ _ _ _; rw [show Inv.add L 4 2 = true from t2, show Inv.add L 4 5 = false from f5, show Inv.add L 4 7 = false from f7]; exact H)⟩⟩
   ·intro L A w up hun hd F ⟨v2, v3, v4, p2, p4, p5, H⟩
    have t2 : L 2 = true := by
     cases hb : L 2 with
     | true => rfl
     | false =>
      have hb4 := up 4 2 rfl hb
      rw [hd 4 rfl] at hb4; cases hb4
    have t4 : L 4 = true := hd 4 rfl
    have f5 : L 5 = false := hun
    have f7 : L 7 = false := up 7 5 rfl hun
    rw [t2, t4, f5, f7] at H
    have F := Fr.add F (p2 t2)
    have F := Fr.add F (p4 t4)
    refine step_on rfl (d_callR_at 4 (vs := [qv, v3]) (mk := fun v => v) if_228 F H rfl rfl (gadd_c _ _ (Gf.ws q) (Gf.ws (1 <<< n)) q (1 <<< n) (Gf.val_ws _) (Gf.val_ws _) _ (Gf.Rd.row (H.row 0 _ rfl rfl) rfl rfl (by omega)) (Gf.Rd.row (H.row 3 _ rfl rfl) rfl rfl (by omega)))) ?_
    rintro xv w' ⟨v', hx, H⟩
    exact ⟨Cn, ⟨v2, v3, v', Pk p2, Pk p4, (fun _ => (Sx.put_same F (by decide) _).trans hx), (by show Sx.Own _ _ _ _; rw [show Inv.add L 5 2 = true from t2, show Inv.add L 5 4 = true from t4, show Inv.add L 5 7 = false from f7]; exact H)⟩⟩
   ·intro L A w up hun hd F ⟨v2, v3, v4, p2, p4, p5, H⟩
    have t2 : L 2 = true := hd 2 rfl
    have t4 : L 4 = true := hd 4 rfl
    have t5 : L 5 = true := hd 5 rfl
    have f7 : L 7 = false := up 7 6 rfl hun
    have Hj := H; rw [t2, t4, t5, f7] at Hj
    have F := Fr.add F (p2 t2)
    have F := Fr.add F (p4 t4)
    have F := Fr.add F (p5 t5)
    refine step_on rfl (Fd F (fa_307_0.default.h _ _ _)) ?_
    rintro xv w' ⟨hx, rfl⟩
    exact ⟨Cs hx, ⟨v2, v3, v4, Pk p2, Pk p4, Pk p5, H⟩⟩
   ·intro L A w up hun hd F ⟨v2, v3, v4, p2, p4, p5, H⟩
    have t2 : L 2 = true := hd 2 rfl
    have t4 : L 4 = true := hd 4 rfl
    have t5 : L 5 = true := hd 5 rfl
    have f7 : L 7 = false := hun
    rw [t2, t4, t5, f7] at H
    have F := Fr.add F (p2 t2)
    have F := Fr.add F (p4 t4)
    have F := Fr.add F (p5 t5)
    refine step_on rfl (d_store (i := 0) (xs := [v4]) (us := [v4, rv]) sz_274 F H rfl rfl rfl (by obtain ⟨_, _, hv0⟩ := Sx.len_of (k := (Gf.ws (q ^^^ (1 <<< n))).length) (v := v4) (rowEq (H.row 4 _ rfl rfl) rfl rfl rfl rfl rfl); rw [hv0]; rfl) rfl (by obtain ⟨_, _, hv0⟩ := Sx.len_of (k := (Gf.ws (q ^^^ (1 <<< n))).length) (v := v4) (rowEq (H.row 4 _ rfl rfl) rfl rfl rfl rfl rfl); rw [hv0]; rfl) rfl (Nat.le_of_ble_eq_true rfl) rfl) ?_
    intro xv w' H
    exact ⟨Cn, ⟨v2, v3, v4, p2, p4, p5, (by show Sx.Own _ _ _ _; rw [show Inv.add L 7 2 = true from t2, show Inv.add L 7 4 = true from t4, show Inv.add L 7 5 = true from t5]; exact H)⟩⟩
  ·intro L A w hL F ⟨v2, v3, v4, p2, p4, p5, H⟩
   have t2 : L 2 = true := hL 2 rfl
   have t4 : L 4 = true := hL 4 rfl
   have t5 : L 5 = true := hL 5 rfl
   have t7 : L 7 = true := hL 7 rfl
   rw [t2, t4, t5, t7] at H
   have F := Fr.add F (p2 t2)
   have F := Fr.add F (p4 t4)
   have F := Fr.add F (p5 t5)
   have F := F.tq [(0, .slice ada la.length capa), (1, .slice adb lb.length capb), (4, pT g1 0), (5, pT g2 0), (6, iI (Gf.deg (Gf.val lb))), (13, pT g2 1), (14, rv), (15, iI (Gf.deg m)), (16, iI (Gf.deg (Gf.val lb))), (17, iI n), (7, iI n), (18, iI n), (19, bF)] rfl
   refine hK7 _ _ ?_
   have F := F.tq [(0, .slice ada la.length capa), (1, .slice adb lb.length capb), (4, pT g1 0), (5, pT g2 0), (6, iI (Gf.deg (Gf.val lb))), (13, pT g2 1), (14, rv), (15, iI (Gf.deg m)), (16, iI (Gf.deg (Gf.val lb))), (17, iI n), (7, iI n), (18, iI n), (19, bF)] rfl
   refine Dn F [some (pT g2 1), some (rv), some (.slice adb lb.length capb), some (iI n), none, none, some (pT g2 1), none] (fun L A w => ∃ v5 : Value, ∃ v6 : Value, (L 4 = true → A.eval (.tmp 32) = v5) ∧ (L 5 = true → A.eval (.tmp 33) = v6) ∧ Sx.Own w0 w [(true, g2, (cond (L 7) [v4, v6] [v4, rv])), (true, g1, [nS, nS])] [⟨true, qv, 22, 1, (Gf.ws q).length, (Gf.cells (Gf.ws q))⟩, ⟨true, rv, 22, 1, (Gf.ws m).length, (Gf.cells (Gf.ws m))⟩, ⟨true, v2, 22, 1, 1, [iU 1]⟩, ⟨true, v3, 22, 1, (Gf.ws (1 <<< n)).length, (Gf.cells (Gf.ws (1 <<< n)))⟩, ⟨true, v4, 22, 1, (Gf.ws (q ^^^ (1 <<< n))).length, (Gf.cells (Gf.ws (q ^^^ (1 <<< n))))⟩, ⟨L 4, v5, 22, 1, (Gf.ws ((Gf.val lb) <<< n)).length, (Gf.cells (Gf.ws ((Gf.val lb) <<< n)))⟩, ⟨L 5, v6, 22, 1, (Gf.ws (m ^^^ ((Gf.val lb) <<< n))).length, (Gf.cells (Gf.ws (m ^^^ ((Gf.val lb) <<< n))))⟩]) ⟨undef, undef, (fun h => by cases h), (fun h => by cases h), H.drew.pad [] rfl [⟨false, undef, 22, 1, (Gf.ws ((Gf.val lb) <<< n)).length, (Gf.cells (Gf.ws ((Gf.val lb) <<< n)))⟩, ⟨false, undef, 22, 1, (Gf.ws (m ^^^ ((Gf.val lb) <<< n))).length, (Gf.cells (Gf.ws (m ^^^ ((Gf.val lb) <<< n))))⟩] rfl⟩ ?_ ?_
   ·refine ⟨?_, ?_, ?_, ?_, ?_, ?_, ?_, ?_, trivial⟩
    ·intro L A w up hun hd F ⟨v5, v6, p4, p5, H⟩
     have f1 : L 1 = false := up 1 0 rfl hun
     have f5 : L 5 = false := up 5 1 rfl f1
     have f7 : L 7 = false := up 7 0 rfl hun
     have Hj := H; rw [f5, f7] at Hj
     refine step_on rfl (Fd F (fa_307_1.default.h _ _ _)) ?_
     rintro xv w' ⟨hx, rfl⟩
     exact ⟨Cs hx, ⟨v5, v6, Pk p4, Nf f5, H⟩⟩
    ·intro L A w up hun hd F ⟨v5, v6, p4, p5, H⟩
     have f5 : L 5 = false := up 5 1 rfl hun
     have f7 : L 7 = false := up 7 1 rfl hun
     have Hj := H; rw [f5, f7] at Hj
     refine step_on rfl (Ld 0 one_274 F Hj) ?_
     rintro xv w' ⟨hx, rfl⟩
     exact ⟨Cs hx, ⟨v5, v6, Pk p4, Nf f5, H⟩⟩
    ·intro L A w up hun hd F ⟨v5, v6, p4, p5, H⟩
     have f4 : L 4 = false := up 4 2 rfl hun
     have f5 : L 5 = false := up 5 4 rfl f4
     have f7 : L 7 = false := up 7 2 rfl hun
     have Hj := H; rw [f4, f5, f7] at Hj
     refine step_on rfl (d_move F (Or.inl rfl) rfl) ?_
     rintro xv w' ⟨hx, rfl⟩
     exact ⟨Cs hx, ⟨v5, v6, Nf f4, Nf f5, H⟩⟩
    ·intro L A w up hun hd F ⟨v5, v6, p4, p5, H⟩
     have f4 : L 4 = false := up 4 3 rfl hun
     have f5 : L 5 = false := up 5 4 rfl f4
     have f7 : L 7 = false := up 7 3 rfl hun
     have Hj := H; rw [f4, f5, f7] at Hj
     refine step_on rfl (d_move F (Or.inl rfl) rfl) ?_
     rintro xv w' ⟨hx, rfl⟩
     exact ⟨Cs hx, ⟨v5, v6, Nf f4, Nf f5, H⟩⟩
    ·intro L A w up hun hd F ⟨v5, v6, p4, p5, H⟩
     have f4 : L 4 = false := hun
     have f5 : L 5 = false := up 5 4 rfl hun
     have f7 : L 7 = false := up 7 4 rfl hun
     rw [f4, f5, f7] at H
     refine step_on rfl (d_callR_at 5 (vs := [.slice adb lb.length capb, iI n]) (mk := fun v => v) if_239 F H rfl rfl (glift_c n (by omega) _ lb (Gf.val lb) rfl (by omega) _ ((hrb).below H.below))) ?_
     rintro xv w' ⟨v', hx, H⟩
     exact ⟨Cn, ⟨v', v6, (fun _ => (Sx.put_same F (by decide) _).trans hx), Nf f5, (by show Sx.Own _ _ _ _; rw [show Inv.add L 4 5 = false from f5, show Inv.add L 4 7 = false from f7]; exact H)⟩⟩
    ·intro L A w up hun hd F ⟨v5, v6, p4, p5, H⟩
     have t4 : L 4 = true := hd 4 rfl
     have f5 : L 5 = false := hun
     have f7 : L 7 = false := up 7 5 rfl hun
     rw [t4, f5, f7] at H
     have F := Fr.add F (p4 t4)
     refine step_on rfl (d_callR_at 6 (vs := [rv, v5]) (mk := fun v => v) if_228 F H rfl rfl (gadd_c _ _ (Gf.ws m) (Gf.ws ((Gf.val lb) <<< n)) m ((Gf.val lb) <<< n) (Gf.val_ws _) (Gf.val_ws _) _ (Gf.Rd.row (H.row 1 _ rfl rfl) rfl rfl (by omega)) (Gf.Rd.row (H.row 5 _ rfl rfl) rfl rfl (by omega)))) ?_
     rintro xv w' ⟨v', hx, H⟩
     exact ⟨Cn, ⟨v5, v', Pk p4, (fun _ => (Sx.put_same F (by decide) _).trans hx), (by show Sx.Own _ _ _ _; rw [show Inv.add L 5 4 = true from t4, show Inv.add L 5 7 = false from f7]; exact H)⟩⟩
    ·intro L A w up hun hd F ⟨v5, v6, p4, p5, H⟩
     have t4 : L 4 = true := hd 4 rfl
     have t5 : L 5 = true := hd 5 rfl
     have f7 : L 7 = false := up 7 6 rfl hun
     have Hj := H; rw [t4, t5, f7] at Hj
     have F := Fr.add F (p4 t4)
     have F := Fr.add F (p5 t5)
     refine step_on rfl (Fd F (fa_307_1.default.h _ _ _)) ?_
     rintro xv w' ⟨hx, rfl⟩
     exact ⟨Cs hx, ⟨v5, v6, Pk p4, Pk p5, H⟩⟩
    ·intro L A w up hun hd F ⟨v5, v6, p4, p5, H⟩
     have t4 : L 4 = true := hd 4 rfl
     have t5 : L 5 = true := hd 5 rfl
     have f7 : L 7 = false := hun
     rw [t4, t5, f7] at H
     have F := Fr.add F (p4 t4)
     have F := Fr.add F (p5 t5)
     refine step_on rfl (d_store (i := 0) (xs := [v6]) (us := [v4, v6]) sz_274 F H rfl rfl rfl (by obtain ⟨_, _, hv0⟩ := Sx.len_of (k := (Gf.ws (m ^^^ ((Gf.val lb) <<< n))).length) (v := v6) (rowEq (H.row 6 _ rfl rfl) rfl rfl rfl rfl rfl); rw [hv0]; rfl) rfl (by obtain ⟨_, _, hv0⟩ := Sx.len_of (k := (Gf.ws (m ^^^ ((Gf.val lb) <<< n))).length) (v := v6) (rowEq (H.row 6 _ rfl rfl) rfl rfl rfl rfl rfl); rw [hv0]; rfl) rfl (Nat.le_of_ble_eq_true rfl) rfl) ?_
     intro xv w' H
     exact ⟨Cn, ⟨v5, v6, p4, p5, (by show Sx.Own _ _ _ _; rw [show Inv.add L 7 4 = true from t4, show Inv.add L 7 5 = true from t5]; exact H)⟩⟩
   ·intro L A w hL F ⟨v5, v6, p4, p5, H⟩
    have t4 : L 4 = true := hL 4 rfl
    have t5 : L 5 = true := hL 5 rfl
    have t7 : L 7 = true := hL 7 rfl
    rw [t4, t5, t7] at H
    have F := Fr.add F (p4 t4)
    have F := Fr.add F (p5 t5)
    have F := F.tq [(0, .slice ada la.length capa), (1, .slice adb lb.length capb), (4, pT g1 0), (5, pT g2 0), (6, iI (Gf.deg (Gf.val lb))), (13, pT g2 1), (14, rv), (15, iI (Gf.deg m)), (16, iI (Gf.deg (Gf.val lb))), (17, iI n), (7, iI n), (18, iI n), (19, bF)] rfl
    try dsimp only [Exit.then, Exit.noGoto]
    exact ⟨m ^^^ Gf.val lb <<< n, hlt, m ^^^ Gf.val lb <<< n, q ^^^ 1 <<< n, v6, v4, rfl, hsm, hq2, hdm.trans hst, F.to ⟨rfl, rfl, rfl, rfl, rfl, trivial⟩, H.to' [0, 1] [4, 6] (by decide) (by decide) rfl rfl⟩
 ·have hn : ¬ 0 ≤ Gf.deg m - Gf.deg (Gf.val lb) := fun e => hd ((Gf.deg_le hq).1 e)
  have hmd := Gf.dm_eq hdm hd
  refine Sx.seq fun K8 hK8 => Sp fun _ kk => Av F fun A F => ?_
  refine Zv F (Bn bT F rfl rfl rfl (i_lt (decide_eq_true (by omega)))) fun A F => ?_
  refine Nl kk (condT F rfl (Sp fun _ kk => Av F fun A F => ?_))
  refine Zt F (d_store (i := 1) (xs := [qv, rv]) (us := [qv, rv]) sz_307 F H rfl rfl rfl (rfl) rfl (by obtain ⟨_, _, hv0⟩ := Sx.len_of (k := (Gf.ws q).length) (v := qv) (rowEq (H.row 0 _ rfl rfl) rfl rfl rfl rfl rfl); obtain ⟨_, _, hv1⟩ := Sx.len_of (k := (Gf.ws m).length) (v := rv) (rowEq (H.row 1 _ rfl rfl) rfl rfl rfl rfl rfl); rw [hv0, hv1]; rfl) rfl (Nat.le_of_ble_eq_true rfl) rfl) fun A w F H => ?_
  refine Nl kk (Wr (ret1 F Tryz.results237 (res_row (i := 1) (xs := [qv, rv]) rw_307 F H rfl rfl rfl rfl) ?_))
  rw [hmd]
  obtain ⟨qa, qc, hqv⟩ := Sx.len_of (k := (Gf.ws q).length) (rowEq (v := qv) (H.row 0 _ rfl rfl) rfl rfl rfl rfl rfl)
  exact ⟨qa, _, qc, _, by rw [hqv], H.row 1 _ rfl rfl, H.below⟩
theorem gparts_c  (va : Value) (vb : Value) (la : List (BitVec 64)) (lb : List (BitVec 64)) (Pa : Nat) (Pb : Nat) (hpa : Gf.val la = Pa) (hpb : Gf.val lb = Pb) (hsa : la.length ≤ 30) (hsb : lb.length ≤ 30) (hq : Pb ≠ 0) (w : World) (ha : Gf.Rd w va la) (hb : Gf.Rd w vb lb) : Calls Tryz.prog 237 #[va, vb] w fun e w' => ∃ (qa : Option Addr) (qm qc : Nat) (v : Value), e = .returned (.agg #[.slice qa qm qc, v]) ∧ w'.ownsRow w.heap.size 22 1 v (Gf.ws (Gf.md Pa Pb)).length (Gf.cells (Gf.ws (Gf.md Pa Pb))) ∧ Below w.heap.size w w' := by
 obtain ⟨ada, capa, rfl⟩ := ha.form
 subst hpa
 obtain ⟨adb, capb, rfl⟩ := hb.form
 subst hpb
 exact gparts_1  la ada capa lb adb capb hsa hsb hq w ha hb
abbrev L7 (x0 : Value) (x1 x2 : List (BitVec 64)) : List Sx.Rx := [⟨true, x0, 22, 1, (Gf.ws (Gf.md (Gf.val x1) (Gf.val x2))).length, (Gf.cells (Gf.ws (Gf.md (Gf.val x1) (Gf.val x2))))⟩]
open Sx in
theorem gdiv_1 (la : List (BitVec 64)) (ada : Option Addr) (capa : Nat) (lb : List (BitVec 64)) (adb : Option Addr) (capb : Nat) (hsa : la.length ≤ 30) (hsb : lb.length ≤ 30) (hq : Gf.val lb ≠ 0) (w0 : World) (hra : Gf.Rd w0 (.slice ada la.length capa) la) (hrb : Gf.Rd w0 (.slice adb lb.length capb) lb) : Calls Tryz.prog 229 #[.slice ada la.length capa, .slice adb lb.length capb] w0 fun e w' => ∃ (qa : Option Addr) (qm qc : Nat) (v : Value), e = .returned (.tuple #[.slice qa qm qc, v, iI 0]) ∧ w'.ownsRow w0.heap.size 22 1 v (Gf.ws (Gf.md (Gf.val la) (Gf.val lb))).length (Gf.cells (Gf.ws (Gf.md (Gf.val la) (Gf.val lb)))) ∧ Below w0.heap.size w0 w' := by
 have fewa := hra.few
 have fewb := hrb.few
 have hca := hra.at
 have hcb := hrb.at
 refine En Tryz.func229 Tryz.ntmps229 fun A F => ?_
 have H := Sx.Own.start w0
 refine Sp fun _ kk => ?_
 iterate 3 (refine Av F ?_; intro A F)
 refine Nl kk (Sx.seq fun K2 hK2 => Sp fun _ kk => Av F fun A F => ?_)
 refine Zw F (Dc if_209 F H (gdeg_c _ lb (Gf.val lb) rfl _ ((hrb).below H.below))) fun A w F H => ?_
 refine Zv F (Bn bF F rfl rfl rfl (i_lt (decide_eq_false (by have := Gf.deg_pos hq; omega)))) fun A F => ?_
 refine Nl kk (condF F rfl (wp_skip (hK2 _ _ (Sp fun _ kk => ?_))))
 iterate 2 (refine Av F ?_; intro A F)
 refine Sx.sr2 (R := fun _ v1 w => Sx.Own w0 w [] (L7 v1 la lb)) (mk := fun q v => .agg #[q, v]) F (d_callR2 (vs := [.slice ada la.length capa, .slice adb lb.length capb]) (mk := fun q v => .agg #[q, v]) if_237 F H rfl rfl (gparts_c _ _ la lb (Gf.val la) (Gf.val lb) rfl rfl (hsa) (hsb) (hq) _ ((hra).below H.below) ((hrb).below H.below))) (wanted_none rfl _) rfl (by decide) (fun qav1 qmv1 qcv1 v1 A w F H => ?_)
 refine Zb F (d_alloc H rfl [nS, nS] zero_307) fun g1 A w F H => ?_
 refine Zt F (d_store (i := 0) (xs := [.slice qav1 qmv1 qcv1, v1]) (us := [.slice qav1 qmv1 qcv1, v1]) sz_307 F H rfl rfl rfl (rfl) rfl (by obtain ⟨_, _, hv0⟩ := Sx.len_of (k := (Gf.ws (Gf.md (Gf.val la) (Gf.val lb))).length) (v := v1) (rowEq (H.row 0 _ rfl rfl) rfl rfl rfl rfl rfl); rw [hv0]; rfl) rfl (Nat.le_of_ble_eq_true rfl) rfl) fun A w F H => ?_
 refine Nl kk (Sx.seq fun K5 hK5 => ?_)
 have F := F.tq [(0, .slice ada la.length capa), (1, .slice adb lb.length capb), (8, .slice adb lb.length capb), (9, iI (Gf.deg (Gf.val lb))), (10, bF), (11, .slice ada la.length capa), (12, .slice adb lb.length capb), (13, .agg #[.slice qav1 qmv1 qcv1, v1]), (7, pT g1 0)] rfl
 refine Dn F [some (pT g1 0), some (.slice qav1 qmv1 qcv1), some (pT g1 1), some (v1), some (.slice qav1 qmv1 qcv1), some (v1), some (iI 0)] (fun L A w => Sx.Own w0 w [(true, g1, [.slice qav1 qmv1 qcv1, v1])] (L7 v1 la lb)) H.drew ?_ ?_
 ·refine ⟨?_, ?_, ?_, ?_, ?_, ?_, ?_, trivial⟩
  ·exact Sa
  ·exact SV (fun _ _ _ F H => Ld 0 one_274 F H)
  ·exact Sa
  ·exact SV (fun _ _ _ F H => Ld 0 one_274 F H)
  ·exact Sa
  ·exact Sa
  ·exact Sa
 ·intro L A w hL F H
  have F := F.tq [(4, .slice qav1 qmv1 qcv1), (5, v1), (6, iI 0)] rfl
  refine hK5 _ _ (Wr (ret3 F Tryz.results229 (res_tmp F rfl) (res_tmp F rfl) (res_tmp F rfl) ?_))
  exact ⟨_, _, _, _, rfl, H.row 0 _ rfl rfl, H.below⟩
theorem gdiv_c  (va : Value) (vb : Value) (la : List (BitVec 64)) (lb : List (BitVec 64)) (Pa : Nat) (Pb : Nat) (hpa : Gf.val la = Pa) (hpb : Gf.val lb = Pb) (hsa : la.length ≤ 30) (hsb : lb.length ≤ 30) (hq : Pb ≠ 0) (w : World) (ha : Gf.Rd w va la) (hb : Gf.Rd w vb lb) : Calls Tryz.prog 229 #[va, vb] w fun e w' => ∃ (qa : Option Addr) (qm qc : Nat) (v : Value), e = .returned (.tuple #[.slice qa qm qc, v, iI 0]) ∧ w'.ownsRow w.heap.size 22 1 v (Gf.ws (Gf.md Pa Pb)).length (Gf.cells (Gf.ws (Gf.md Pa Pb))) ∧ Below w.heap.size w w' := by
 obtain ⟨ada, capa, rfl⟩ := ha.form
 subst hpa
 obtain ⟨adb, capb, rfl⟩ := hb.form
 subst hpb
 exact gdiv_1  la ada capa lb adb capb hsa hsb hq w ha hb
open Sx in
theorem gmod_1 (la : List (BitVec 64)) (ada : Option Addr) (capa : Nat) (lb : List (BitVec 64)) (adb : Option Addr) (capb : Nat) (hsa : la.length ≤ 30) (hsb : lb.length ≤ 30) (hq : Gf.val lb ≠ 0) (w0 : World) (hra : Gf.Rd w0 (.slice ada la.length capa) la) (hrb : Gf.Rd w0 (.slice adb lb.length capb) lb) : Calls Tryz.prog 221 #[.slice ada la.length capa, .slice adb lb.length capb] w0 fun e w' => ∃ v, e = .returned (.tuple #[v, iI 0]) ∧ w'.ownsRow w0.heap.size 22 1 v (Gf.ws (Gf.md (Gf.val la) (Gf.val lb))).length (Gf.cells (Gf.ws (Gf.md (Gf.val la) (Gf.val lb)))) ∧ Below w0.heap.size w0 w' := by
 have fewa := hra.few
 have fewb := hrb.few
 have hca := hra.at
 have hcb := hrb.at
 refine En Tryz.func221 Tryz.ntmps221 fun A F => ?_
 have H := Sx.Own.start w0
 refine Sp fun _ kk => ?_
 iterate 2 (refine Av F ?_; intro A F)
 refine Nl kk (Sp fun _ kk => ?_)
 iterate 2 (refine Av F ?_; intro A F)
 refine Sx.sr2 (R := fun _ v1 w => Sx.Own w0 w [] (L7 v1 la lb)) (mk := fun q v => .tuple #[q, v, iI 0]) F (d_callR2 (vs := [.slice ada la.length capa, .slice adb lb.length capb]) (mk := fun q v => .tuple #[q, v, iI 0]) if_229 F H rfl rfl (gdiv_c _ _ la lb (Gf.val la) (Gf.val lb) rfl rfl (hsa) (hsb) (hq) _ ((hra).below H.below) ((hrb).below H.below))) (wanted_none rfl _) rfl (by decide) (fun qav1 qmv1 qcv1 v1 A w F H => ?_)
 iterate 7 (refine Av F ?_; intro A F)
 refine Nl kk (Sp fun _ kk => ?_)
 iterate 4 (refine Av F ?_; intro A F)
 refine Nl kk (Wr (ret2 F Tryz.results221 (res_tmp F rfl) (res_tmp F rfl) ?_))
 exact ⟨_, rfl, H.row 0 _ rfl rfl, H.below⟩
theorem gmod_c  (va : Value) (vb : Value) (la : List (BitVec 64)) (lb : List (BitVec 64)) (Pa : Nat) (Pb : Nat) (hpa : Gf.val la = Pa) (hpb : Gf.val lb = Pb) (hsa : la.length ≤ 30) (hsb : lb.length ≤ 30) (hq : Pb ≠ 0) (w : World) (ha : Gf.Rd w va la) (hb : Gf.Rd w vb lb) : Calls Tryz.prog 221 #[va, vb] w fun e w' => ∃ v, e = .returned (.tuple #[v, iI 0]) ∧ w'.ownsRow w.heap.size 22 1 v (Gf.ws (Gf.md Pa Pb)).length (Gf.cells (Gf.ws (Gf.md Pa Pb))) ∧ Below w.heap.size w w' := by
 obtain ⟨ada, capa, rfl⟩ := ha.form
 subst hpa
 obtain ⟨adb, capb, rfl⟩ := hb.form
 subst hpb
 exact gmod_1  la ada capa lb adb capb hsa hsb hq w ha hb
open Sx in
theorem gmulmod_1 (la : List (BitVec 64)) (ada : Option Addr) (capa : Nat) (lb : List (BitVec 64)) (adb : Option Addr) (capb : Nat) (lc : List (BitVec 64)) (adc : Option Addr) (capc : Nat) (hsa : la.length ≤ 10) (hsb : lb.length ≤ 10) (hsc : lc.length ≤ 10) (hq : Gf.val lc ≠ 0) (w0 : World) (hra : Gf.Rd w0 (.slice ada la.length capa) la) (hrb : Gf.Rd w0 (.slice adb lb.length capb) lb) (hrc : Gf.Rd w0 (.slice adc lc.length capc) lc) : Calls Tryz.prog 224 #[.slice ada la.length capa, .slice adb lb.length capb, .slice adc lc.length capc] w0 fun e w' => ∃ v, e = .returned (.tuple #[v, iI 0]) ∧ w'.ownsRow w0.heap.size 22 1 v (Gf.ws (Gf.md (Gf.clm (Gf.val la) (Gf.val lb)) (Gf.val lc))).length (Gf.cells (Gf.ws (Gf.md (Gf.clm (Gf.val la) (Gf.val lb)) (Gf.val lc)))) ∧ Below w0.heap.size w0 w' := by
 have fewa := hra.few
 have fewb := hrb.few
 have fewc := hrc.few
 have hca := hra.at
 have hcb := hrb.at
 have hcc := hrc.at
 have hlm := Gf.lim_len (Gf.lim_clm (Gf.len_lim hsa) (Gf.len_lim hsb))
 refine En Tryz.func224 Tryz.ntmps224 fun A F => ?_
 have H := Sx.Own.start w0
 refine Sp fun _ kk => ?_
 iterate 2 (refine Av F ?_; intro A F)
 refine Nl kk (Sp fun _ kk => ?_)
 iterate 2 (refine Av F ?_; intro A F)
 refine Zr (mk := fun v => v) F (d_callR (vs := [.slice ada la.length capa, .slice adb lb.length capb]) (mk := fun v => v) if_234 F H rfl rfl (gmul_c _ _ la lb (Gf.val la) (Gf.val lb) rfl rfl (by omega) _ ((hra).below H.below) ((hrb).below H.below))) fun v1 A w F H => ?_
 refine Av F fun A F => ?_
 refine Zr (mk := fun v => .tuple #[v, iI 0]) F (d_callR (vs := [v1, .slice adc lc.length capc]) (mk := fun v => .tuple #[v, iI 0]) if_221 F H rfl rfl (gmod_c _ _ (Gf.ws (Gf.clm (Gf.val la) (Gf.val lb))) lc (Gf.clm (Gf.val la) (Gf.val lb)) (Gf.val lc) (Gf.val_ws _) rfl (by omega) (by omega) (hq) _ (Gf.Rd.row (H.row 0 _ rfl rfl) rfl rfl (by omega)) ((hrc).below H.below))) fun v2 A w F H => ?_
 iterate 4 (refine Av F ?_; intro A F)
 refine Nl kk (Wr (ret2 F Tryz.results224 (res_tmp F rfl) (res_tmp F rfl) ?_))
 exact ⟨_, rfl, H.row 0 _ rfl rfl, H.below⟩
theorem gmulmod_c  (va : Value) (vb : Value) (vc : Value) (la : List (BitVec 64)) (lb : List (BitVec 64)) (lc : List (BitVec 64)) (Pa : Nat) (Pb : Nat) (Pc : Nat) (hpa : Gf.val la = Pa) (hpb : Gf.val lb = Pb) (hpc : Gf.val lc = Pc) (hsa : la.length ≤ 10) (hsb : lb.length ≤ 10) (hsc : lc.length ≤ 10) (hq : Pc ≠ 0) (w : World) (ha : Gf.Rd w va la) (hb : Gf.Rd w vb lb) (hc : Gf.Rd w vc lc) : Calls Tryz.prog 224 #[va, vb, vc] w fun e w' => ∃ v, e = .returned (.tuple #[v, iI 0]) ∧ w'.ownsRow w.heap.size 22 1 v (Gf.ws (Gf.md (Gf.clm Pa Pb) Pc)).length (Gf.cells (Gf.ws (Gf.md (Gf.clm Pa Pb) Pc))) ∧ Below w.heap.size w w' := by
 obtain ⟨ada, capa, rfl⟩ := ha.form
 subst hpa
 obtain ⟨adb, capb, rfl⟩ := hb.form
 subst hpb
 obtain ⟨adc, capc, rfl⟩ := hc.form
 subst hpc
 exact gmulmod_1  la ada capa lb adb capb lc adc capc hsa hsb hsc hq w ha hb hc
end Go.Proofs.YteecadoakmdibaaGreat
