/- wide.Cmp, Len, Bit walked. -/
import Derived.Test.YtpbdffmgendboabLnPlain
import Derived.Test.YtpbdffmgendboabSl7
import Derived.Test.YtpbdffmgendboabWl
namespace Go.Proofs.Ytpbdffmgendboab
open Go Go.RowKit
theorem wleftN_c (a : BitVec 128) (k : Nat) (h : (k : Int) ≤ 9223372036854775807) (w : World) : Calls Try.prog 15 #[.agg #[.int .u64 (Wd.hi a).toNat, .int .u64 (Wd.lo a).toNat], .int .i64 k] w fun e w' => e = .returned (.agg #[.int .u64 (Wd.hi (a <<< k)).toNat, .int .u64 (Wd.lo (a <<< k)).toNat]) ∧ Below w.heap.size w w' := wleft_c a k h w
theorem wrightN_c (a : BitVec 128) (k : Nat) (h : (k : Int) ≤ 9223372036854775807) (w : World) : Calls Try.prog 16 #[.agg #[.int .u64 (Wd.hi a).toNat, .int .u64 (Wd.lo a).toNat], .int .i64 k] w fun e w' => e = .returned (.agg #[.int .u64 (Wd.hi (a >>> k)).toNat, .int .u64 (Wd.lo (a >>> k)).toNat]) ∧ Below w.heap.size w w' := wright_c a k h w
set_option maxRecDepth 100000 in
theorem cnan_c (x : BitVec 64) (w0 : World) : Calls Try.prog 69 #[.int .u64 x.toNat] w0 fun e w' => e = .returned (.bool false) ∧ Below w0.heap.size w0 w' := by
  refine Sx.enter (args := [.int .u64 x.toNat]) Try.func69 rfl Try.ntmps69 (Nat.le_of_ble_eq_true rfl) (fun A F => ?_)
  have H := Sx.Own.start w0
  refine Sx.seq (fun K1 hK1 => ?_)
  refine Sx.plain ?_
  refine Sx.sv F (Sx.d_move F (Or.inr rfl) rfl) (Sx.wanted_none rfl _) rfl (by decide) (fun A F => ?_)
  refine Sx.nil ?_
  refine hK1 _ _ ?_
  refine Sx.seq (fun K2 hK2 => ?_)
  refine Sx.plain ?_
  refine Sx.sv F (Sx.d_move F (Or.inl rfl) rfl) (Sx.wanted_none rfl _) rfl (by decide) (fun A F => ?_)
  refine Sx.sv F (Sx.d_move F (Or.inl rfl) rfl) (Sx.wanted_none rfl _) rfl (by decide) (fun A F => ?_)
  refine Sx.sv F (Sx.d_bin (v := .bool false) F rfl rfl rfl (Sx.i_ne (by simp))) (Sx.wanted_none rfl _) rfl (by decide) (fun A F => ?_)
  refine Sx.sv F (Sx.d_move F (Or.inr rfl) rfl) (Sx.wanted_none rfl _) rfl (by decide) (fun A F => ?_)
  refine Sx.nil ?_
  refine hK2 _ _ ?_
  refine wp_ret ?_
  try dsimp only [Exit.then, Exit.inBlock, Exit.jump]
  refine Sx.ret1 F Try.results69 (Sx.res_tmp (v := .bool false) F rfl) ⟨?_, H.below⟩
  rfl
set_option maxRecDepth 100000 in
theorem ccmp_c (x y : BitVec 64) (w0 : World) : Calls Try.prog 53 #[.int .u64 x.toNat, .int .u64 y.toNat] w0 fun e w' => e = .returned (.int .i64 (Wd.cmpN x.toNat y.toNat)) ∧ Below w0.heap.size w0 w' := by
  refine Sx.enter (args := [.int .u64 x.toNat, .int .u64 y.toNat]) Try.func53 rfl Try.ntmps53 (Nat.le_of_ble_eq_true rfl) (fun A F => ?_)
  have H := Sx.Own.start w0
  refine Sx.seq (fun K1 hK1 => ?_)
  refine Sx.plain ?_
  refine Sx.sv F (Sx.d_move F (Or.inr rfl) rfl) (Sx.wanted_none rfl _) rfl (by decide) (fun A F => ?_)
  refine Sx.nil ?_
  refine hK1 _ _ ?_
  refine Sx.seq (fun K2 hK2 => ?_)
  refine Sx.plain ?_
  refine Sx.sv F (Sx.d_move F (Or.inl rfl) rfl) (Sx.wanted_none rfl _) rfl (by decide) (fun A F => ?_)
  refine Sx.sw F (Sx.d_call (vs := [.int .u64 x.toNat]) (v := .bool false) if_69 F H rfl rfl (cnan_c x _)) (Sx.wanted_none rfl _) rfl (by decide) (fun A w F H => ?_)
  refine Sx.sv F (Sx.d_move F (Or.inr rfl) rfl) (Sx.wanted_none rfl _) rfl (by decide) (fun A F => ?_)
  refine Sx.nil ?_
  refine hK2 _ _ ?_
  refine Sx.seq (fun K3 hK3 => ?_)
  refine Sx.plain ?_
  refine Sx.sv F (Sx.d_move F (Or.inl rfl) rfl) (Sx.wanted_none rfl _) rfl (by decide) (fun A F => ?_)
  refine Sx.sw F (Sx.d_call (vs := [.int .u64 y.toNat]) (v := .bool false) if_69 F H rfl rfl (cnan_c y _)) (Sx.wanted_none rfl _) rfl (by decide) (fun A w F H => ?_)
  refine Sx.sv F (Sx.d_move F (Or.inr rfl) rfl) (Sx.wanted_none rfl _) rfl (by decide) (fun A F => ?_)
  refine Sx.nil ?_
  refine hK3 _ _ ?_
  refine Sx.seq (fun K4 hK4 => ?_)
  refine Sx.seq (fun K5 hK5 => ?_)
  refine Sx.plain ?_
  refine Sx.sv F (Sx.d_move F (Or.inl rfl) rfl) (Sx.wanted_none rfl _) rfl (by decide) (fun A F => ?_)
  refine Sx.nil ?_
  refine hK5 _ _ ?_
  refine Sx.condF F rfl ?_
  refine wp_skip ?_
  refine hK4 _ _ ?_
  refine Sx.seq (fun K6 hK6 => ?_)
  refine Sx.seq (fun K7 hK7 => ?_)
  refine Sx.plain ?_
  refine Sx.sv F (Sx.d_move F (Or.inl rfl) rfl) (Sx.wanted_none rfl _) rfl (by decide) (fun A F => ?_)
  refine Sx.nil ?_
  refine hK7 _ _ ?_
  refine Sx.condF F rfl ?_
  refine wp_skip ?_
  refine hK6 _ _ ?_
  rcases Nat.lt_trichotomy x.toNat y.toNat with hl | hl | hl
  · skip
    refine Sx.seq (fun K8 hK8 => ?_)
    refine Sx.seq (fun K9 hK9 => ?_)
    refine Sx.plain ?_
    refine Sx.sv F (Sx.d_move F (Or.inl rfl) rfl) (Sx.wanted_none rfl _) rfl (by decide) (fun A F => ?_)
    refine Sx.sv F (Sx.d_move F (Or.inl rfl) rfl) (Sx.wanted_none rfl _) rfl (by decide) (fun A F => ?_)
    refine Sx.sv F (Sx.d_bin (v := .bool true) F rfl rfl rfl (Sx.i_lt (decide_eq_true (by omega)))) (Sx.wanted_none rfl _) rfl (by decide) (fun A F => ?_)
    refine Sx.nil ?_
    refine hK9 _ _ ?_
    refine Sx.condT F rfl ?_
    refine Sx.seq (fun K10 hK10 => ?_)
    refine Sx.plain ?_
    refine Sx.sv F (Sx.d_move F (Or.inr rfl) rfl) (Sx.wanted_none rfl _) rfl (by decide) (fun A F => ?_)
    refine Sx.nil ?_
    refine hK10 _ _ ?_
    refine wp_ret ?_
    try dsimp only [Exit.then, Exit.inBlock, Exit.jump]
    refine Sx.ret1 F Try.results53 (Sx.res_tmp (v := .int .i64 (-1)) F rfl) ⟨?_, H.below⟩
    rw [Wd.cmpN_lt hl]
  · skip
    refine Sx.seq (fun K11 hK11 => ?_)
    refine Sx.seq (fun K12 hK12 => ?_)
    refine Sx.plain ?_
    refine Sx.sv F (Sx.d_move F (Or.inl rfl) rfl) (Sx.wanted_none rfl _) rfl (by decide) (fun A F => ?_)
    refine Sx.sv F (Sx.d_move F (Or.inl rfl) rfl) (Sx.wanted_none rfl _) rfl (by decide) (fun A F => ?_)
    refine Sx.sv F (Sx.d_bin (v := .bool false) F rfl rfl rfl (Sx.i_lt (decide_eq_false (by omega)))) (Sx.wanted_none rfl _) rfl (by decide) (fun A F => ?_)
    refine Sx.nil ?_
    refine hK12 _ _ ?_
    refine Sx.condF F rfl ?_
    refine wp_skip ?_
    refine hK11 _ _ ?_
    refine Sx.seq (fun K13 hK13 => ?_)
    refine Sx.seq (fun K14 hK14 => ?_)
    refine Sx.plain ?_
    refine Sx.sv F (Sx.d_move F (Or.inl rfl) rfl) (Sx.wanted_none rfl _) rfl (by decide) (fun A F => ?_)
    refine Sx.sv F (Sx.d_move F (Or.inl rfl) rfl) (Sx.wanted_none rfl _) rfl (by decide) (fun A F => ?_)
    refine Sx.sv F (Sx.d_bin (v := .bool false) F rfl rfl rfl (Sx.i_gt (decide_eq_false (by omega)))) (Sx.wanted_none rfl _) rfl (by decide) (fun A F => ?_)
    refine Sx.nil ?_
    refine hK14 _ _ ?_
    refine Sx.condF F rfl ?_
    refine wp_skip ?_
    refine hK13 _ _ ?_
    refine Sx.seq (fun K15 hK15 => ?_)
    refine Sx.plain ?_
    refine Sx.sv F (Sx.d_move F (Or.inr rfl) rfl) (Sx.wanted_none rfl _) rfl (by decide) (fun A F => ?_)
    refine Sx.nil ?_
    refine hK15 _ _ ?_
    refine wp_ret ?_
    try dsimp only [Exit.then, Exit.inBlock, Exit.jump]
    refine Sx.ret1 F Try.results53 (Sx.res_tmp (v := .int .i64 0) F rfl) ⟨?_, H.below⟩
    rw [Wd.cmpN_eq hl]
  · skip
    refine Sx.seq (fun K16 hK16 => ?_)
    refine Sx.seq (fun K17 hK17 => ?_)
    refine Sx.plain ?_
    refine Sx.sv F (Sx.d_move F (Or.inl rfl) rfl) (Sx.wanted_none rfl _) rfl (by decide) (fun A F => ?_)
    refine Sx.sv F (Sx.d_move F (Or.inl rfl) rfl) (Sx.wanted_none rfl _) rfl (by decide) (fun A F => ?_)
    refine Sx.sv F (Sx.d_bin (v := .bool false) F rfl rfl rfl (Sx.i_lt (decide_eq_false (by omega)))) (Sx.wanted_none rfl _) rfl (by decide) (fun A F => ?_)
    refine Sx.nil ?_
    refine hK17 _ _ ?_
    refine Sx.condF F rfl ?_
    refine wp_skip ?_
    refine hK16 _ _ ?_
    refine Sx.seq (fun K18 hK18 => ?_)
    refine Sx.seq (fun K19 hK19 => ?_)
    refine Sx.plain ?_
    refine Sx.sv F (Sx.d_move F (Or.inl rfl) rfl) (Sx.wanted_none rfl _) rfl (by decide) (fun A F => ?_)
    refine Sx.sv F (Sx.d_move F (Or.inl rfl) rfl) (Sx.wanted_none rfl _) rfl (by decide) (fun A F => ?_)
    refine Sx.sv F (Sx.d_bin (v := .bool true) F rfl rfl rfl (Sx.i_gt (decide_eq_true (by omega)))) (Sx.wanted_none rfl _) rfl (by decide) (fun A F => ?_)
    refine Sx.nil ?_
    refine hK19 _ _ ?_
    refine Sx.condT F rfl ?_
    refine Sx.seq (fun K20 hK20 => ?_)
    refine Sx.plain ?_
    refine Sx.sv F (Sx.d_move F (Or.inr rfl) rfl) (Sx.wanted_none rfl _) rfl (by decide) (fun A F => ?_)
    refine Sx.nil ?_
    refine hK20 _ _ ?_
    refine wp_ret ?_
    try dsimp only [Exit.then, Exit.inBlock, Exit.jump]
    refine Sx.ret1 F Try.results53 (Sx.res_tmp (v := .int .i64 1) F rfl) ⟨?_, H.below⟩
    rw [Wd.cmpN_gt hl]
set_option maxRecDepth 100000 in
theorem wcmp_c (da db : BitVec 128) (w0 : World) : Calls Try.prog 17 #[.agg #[.int .u64 ((Wd.hi da).toNat), .int .u64 ((Wd.lo da).toNat)], .agg #[.int .u64 ((Wd.hi db).toNat), .int .u64 ((Wd.lo db).toNat)]] w0 fun e w' => e = .returned (.int .i64 (Wd.cmp da db)) ∧ Below w0.heap.size w0 w' := by
  refine Sx.enter (args := [.agg #[.int .u64 ((Wd.hi da).toNat), .int .u64 ((Wd.lo da).toNat)], .agg #[.int .u64 ((Wd.hi db).toNat), .int .u64 ((Wd.lo db).toNat)]]) Try.func17 rfl Try.ntmps17 (Nat.le_of_ble_eq_true rfl) (fun A F => ?_)
  have H := Sx.Own.start w0
  refine Sx.seq (fun K1 hK1 => ?_)
  refine Sx.plain ?_
  refine Sx.sb F (Sx.d_box F H rfl rfl [.int .u64 ((Wd.hi da).toNat), .int .u64 ((Wd.lo da).toNat)] rfl) (Sx.wanted_none rfl _) rfl (by decide) (fun g1 A w F H => ?_)
  refine Sx.sb F (Sx.d_box F H rfl rfl [.int .u64 ((Wd.hi db).toNat), .int .u64 ((Wd.lo db).toNat)] rfl) (Sx.wanted_none rfl _) rfl (by decide) (fun g2 A w F H => ?_)
  refine Sx.sv F (Sx.d_move F (Or.inr rfl) rfl) (Sx.wanted_none rfl _) rfl (by decide) (fun A F => ?_)
  refine Sx.nil ?_
  refine hK1 _ _ ?_
  by_cases he : (Wd.hi da).toNat = (Wd.hi db).toNat
  · skip
    refine Sx.seq (fun K2 hK2 => ?_)
    refine Sx.seq (fun K3 hK3 => ?_)
    refine Sx.plain ?_
    refine Sx.sv F (Sx.d_faddr (v := .pointer (some ⟨g1, 0, none⟩)) F rfl rfl (fa_24_0 _ 0 _)) (Sx.wanted_none rfl _) rfl (by decide) (fun A F => ?_)
    refine Sx.sv F (Sx.d_load1 (i := 1) (v := .int .u64 ((Wd.hi da).toNat)) one_22 F H rfl rfl rfl rfl) (Sx.wanted_none rfl _) rfl (by decide) (fun A F => ?_)
    refine Sx.sv F (Sx.d_faddr (v := .pointer (some ⟨g2, 0, none⟩)) F rfl rfl (fa_24_0 _ 0 _)) (Sx.wanted_none rfl _) rfl (by decide) (fun A F => ?_)
    refine Sx.sv F (Sx.d_load1 (i := 0) (v := .int .u64 ((Wd.hi db).toNat)) one_22 F H rfl rfl rfl rfl) (Sx.wanted_none rfl _) rfl (by decide) (fun A F => ?_)
    refine Sx.sv F (Sx.d_bin (v := .bool false) F rfl rfl rfl (Sx.i_ne (by rw [he]; simp))) (Sx.wanted_none rfl _) rfl (by decide) (fun A F => ?_)
    refine Sx.nil ?_
    refine hK3 _ _ ?_
    refine Sx.condF F rfl ?_
    refine wp_skip ?_
    refine hK2 _ _ ?_
    refine Sx.seq (fun K4 hK4 => ?_)
    refine Sx.plain ?_
    refine Sx.sv F (Sx.d_faddr (v := .pointer (some ⟨g1, 1, none⟩)) F rfl rfl (fa_24_1 _ 0 _)) (Sx.wanted_none rfl _) rfl (by decide) (fun A F => ?_)
    refine Sx.sv F (Sx.d_load1 (i := 1) (v := .int .u64 ((Wd.lo da).toNat)) one_22 F H rfl rfl rfl rfl) (Sx.wanted_none rfl _) rfl (by decide) (fun A F => ?_)
    refine Sx.sv F (Sx.d_faddr (v := .pointer (some ⟨g2, 1, none⟩)) F rfl rfl (fa_24_1 _ 0 _)) (Sx.wanted_none rfl _) rfl (by decide) (fun A F => ?_)
    refine Sx.sv F (Sx.d_load1 (i := 0) (v := .int .u64 ((Wd.lo db).toNat)) one_22 F H rfl rfl rfl rfl) (Sx.wanted_none rfl _) rfl (by decide) (fun A F => ?_)
    refine Sx.sw F (Sx.d_call (vs := [.int .u64 ((Wd.lo da).toNat), .int .u64 ((Wd.lo db).toNat)]) (v := .int .i64 (Wd.cmpN (Wd.lo da).toNat (Wd.lo db).toNat)) if_53 F H rfl rfl (ccmp_c (Wd.lo da) (Wd.lo db) _)) (Sx.wanted_none rfl _) rfl (by decide) (fun A w F H => ?_)
    refine Sx.sv F (Sx.d_move F (Or.inr rfl) rfl) (Sx.wanted_none rfl _) rfl (by decide) (fun A F => ?_)
    refine Sx.nil ?_
    refine hK4 _ _ ?_
    refine wp_ret ?_
    try dsimp only [Exit.then, Exit.inBlock, Exit.jump]
    refine Sx.ret1 F Try.results17 (Sx.res_tmp (v := .int .i64 (Wd.cmpN (Wd.lo da).toNat (Wd.lo db).toNat)) F rfl) ⟨?_, H.below⟩
    rw [← Wd.cmp_lo da db he]
  · skip
    refine Sx.seq (fun K5 hK5 => ?_)
    refine Sx.seq (fun K6 hK6 => ?_)
    refine Sx.plain ?_
    refine Sx.sv F (Sx.d_faddr (v := .pointer (some ⟨g1, 0, none⟩)) F rfl rfl (fa_24_0 _ 0 _)) (Sx.wanted_none rfl _) rfl (by decide) (fun A F => ?_)
    refine Sx.sv F (Sx.d_load1 (i := 1) (v := .int .u64 ((Wd.hi da).toNat)) one_22 F H rfl rfl rfl rfl) (Sx.wanted_none rfl _) rfl (by decide) (fun A F => ?_)
    refine Sx.sv F (Sx.d_faddr (v := .pointer (some ⟨g2, 0, none⟩)) F rfl rfl (fa_24_0 _ 0 _)) (Sx.wanted_none rfl _) rfl (by decide) (fun A F => ?_)
    refine Sx.sv F (Sx.d_load1 (i := 0) (v := .int .u64 ((Wd.hi db).toNat)) one_22 F H rfl rfl rfl rfl) (Sx.wanted_none rfl _) rfl (by decide) (fun A F => ?_)
    refine Sx.sv F (Sx.d_bin (v := .bool true) F rfl rfl rfl (Sx.i_ne (bne_iff_ne.2 (by omega)))) (Sx.wanted_none rfl _) rfl (by decide) (fun A F => ?_)
    refine Sx.nil ?_
    refine hK6 _ _ ?_
    refine Sx.condT F rfl ?_
    refine Sx.seq (fun K7 hK7 => ?_)
    refine Sx.plain ?_
    refine Sx.sv F (Sx.d_faddr (v := .pointer (some ⟨g1, 0, none⟩)) F rfl rfl (fa_24_0 _ 0 _)) (Sx.wanted_none rfl _) rfl (by decide) (fun A F => ?_)
    refine Sx.sv F (Sx.d_load1 (i := 1) (v := .int .u64 ((Wd.hi da).toNat)) one_22 F H rfl rfl rfl rfl) (Sx.wanted_none rfl _) rfl (by decide) (fun A F => ?_)
    refine Sx.sv F (Sx.d_faddr (v := .pointer (some ⟨g2, 0, none⟩)) F rfl rfl (fa_24_0 _ 0 _)) (Sx.wanted_none rfl _) rfl (by decide) (fun A F => ?_)
    refine Sx.sv F (Sx.d_load1 (i := 0) (v := .int .u64 ((Wd.hi db).toNat)) one_22 F H rfl rfl rfl rfl) (Sx.wanted_none rfl _) rfl (by decide) (fun A F => ?_)
    refine Sx.sw F (Sx.d_call (vs := [.int .u64 ((Wd.hi da).toNat), .int .u64 ((Wd.hi db).toNat)]) (v := .int .i64 (Wd.cmpN (Wd.hi da).toNat (Wd.hi db).toNat)) if_53 F H rfl rfl (ccmp_c (Wd.hi da) (Wd.hi db) _)) (Sx.wanted_none rfl _) rfl (by decide) (fun A w F H => ?_)
    refine Sx.sv F (Sx.d_move F (Or.inr rfl) rfl) (Sx.wanted_none rfl _) rfl (by decide) (fun A F => ?_)
    refine Sx.nil ?_
    refine hK7 _ _ ?_
    refine wp_ret ?_
    try dsimp only [Exit.then, Exit.inBlock, Exit.jump]
    refine Sx.ret1 F Try.results17 (Sx.res_tmp (v := .int .i64 (Wd.cmpN (Wd.hi da).toNat (Wd.hi db).toNat)) F rfl) ⟨?_, H.below⟩
    rw [← Wd.cmp_hi da db he]
set_option maxRecDepth 100000 in
theorem blen_c (x : BitVec 64) (w0 : World) : Calls Try.prog 54 #[.int .u64 x.toNat] w0 fun e w' => e = .returned (.int .i64 (Ln.len64 x)) ∧ Below w0.heap.size w0 w' := by
  refine Sx.enter (args := [.int .u64 x.toNat]) Try.func54 rfl Try.ntmps54 (Nat.le_of_ble_eq_true rfl) (fun A F => ?_)
  have H := Sx.Own.start w0
  refine Sx.seq (fun K1 hK1 => ?_)
  refine Sx.plain ?_
  refine Sx.sv F (Sx.d_move F (Or.inr rfl) rfl) (Sx.wanted_none rfl _) rfl (by decide) (fun A F => ?_)
  refine Sx.nil ?_
  refine hK1 _ _ ?_
  refine Sx.seq (fun K2 hK2 => ?_)
  refine Sx.seq (fun K3 hK3 => ?_)
  refine Sx.plain ?_
  refine Sx.sv F (Sx.d_move F (Or.inl rfl) rfl) (Sx.wanted_none rfl _) rfl (by decide) (fun A F => ?_)
  refine Sx.sv F (Sx.d_bin (v := .bool (decide ((x.toNat : Int) ≥ 4294967296))) F rfl rfl rfl (Sx.i_ge rfl)) (Sx.wanted_none rfl _) rfl (by decide) (fun A F => ?_)
  refine Sx.nil ?_
  refine hK3 _ _ ?_
  refine wp_cond_split (F.ev (x := _) rfl) (fun hc => ?_) (fun hc => ?_)
  · skip
    have hw1 := of_decide_eq_true hc; clear hc
    refine Sx.seq (fun K4 hK4 => ?_)
    refine Sx.plain ?_
    refine Sx.sv F (Sx.d_move F (Or.inl rfl) rfl) (Sx.wanted_none rfl _) rfl (by decide) (fun A F => ?_)
    refine Sx.sv F (Sx.d_bin (v := .int .u64 ((x >>> 32).toNat)) F rfl rfl rfl (Sx.i_shr64 x 32 (by decide) _)) (Sx.wanted_none rfl _) rfl (by decide) (fun A F => ?_)
    refine Sx.sv F (Sx.d_move F (Or.inr rfl) rfl) (Sx.wanted_none rfl _) rfl (by decide) (fun A F => ?_)
    refine Sx.nil ?_
    refine hK4 _ _ ?_
    refine Sx.plain ?_
    refine Sx.sv F (Sx.d_move F (Or.inr rfl) rfl) (Sx.wanted_none rfl _) rfl (by decide) (fun A F => ?_)
    refine Sx.nil ?_
    refine hK2 _ _ ?_
    refine Sx.seq (fun K5 hK5 => ?_)
    refine Sx.seq (fun K6 hK6 => ?_)
    refine Sx.plain ?_
    refine Sx.sv F (Sx.d_move F (Or.inl rfl) rfl) (Sx.wanted_none rfl _) rfl (by decide) (fun A F => ?_)
    refine Sx.sv F (Sx.d_bin (v := .bool (decide (((x >>> 32).toNat : Int) ≥ 65536))) F rfl rfl rfl (Sx.i_ge rfl)) (Sx.wanted_none rfl _) rfl (by decide) (fun A F => ?_)
    refine Sx.nil ?_
    refine hK6 _ _ ?_
    refine wp_cond_split (F.ev (x := _) rfl) (fun hc => ?_) (fun hc => ?_)
    · skip
      have hw2 := of_decide_eq_true hc; clear hc
      refine Sx.seq (fun K7 hK7 => ?_)
      refine Sx.plain ?_
      refine Sx.sv F (Sx.d_move F (Or.inl rfl) rfl) (Sx.wanted_none rfl _) rfl (by decide) (fun A F => ?_)
      refine Sx.sv F (Sx.d_bin (v := .int .u64 (((x >>> 32) >>> 16).toNat)) F rfl rfl rfl (Sx.i_shr64 (x >>> 32) 16 (by decide) _)) (Sx.wanted_none rfl _) rfl (by decide) (fun A F => ?_)
      refine Sx.sv F (Sx.d_move F (Or.inr rfl) rfl) (Sx.wanted_none rfl _) rfl (by decide) (fun A F => ?_)
      refine Sx.nil ?_
      refine hK7 _ _ ?_
      refine Sx.plain ?_
      refine Sx.sv F (Sx.d_move F (Or.inl rfl) rfl) (Sx.wanted_none rfl _) rfl (by decide) (fun A F => ?_)
      refine Sx.sv F (Sx.d_bin (v := .int .i64 48) F rfl rfl rfl (Sx.i_addS (by decide))) (Sx.wanted_none rfl _) rfl (by decide) (fun A F => ?_)
      refine Sx.sv F (Sx.d_move F (Or.inr rfl) rfl) (Sx.wanted_none rfl _) rfl (by decide) (fun A F => ?_)
      refine Sx.nil ?_
      refine hK5 _ _ ?_
      refine Sx.seq (fun K8 hK8 => ?_)
      refine Sx.seq (fun K9 hK9 => ?_)
      refine Sx.plain ?_
      refine Sx.sv F (Sx.d_move F (Or.inl rfl) rfl) (Sx.wanted_none rfl _) rfl (by decide) (fun A F => ?_)
      refine Sx.sv F (Sx.d_bin (v := .bool (decide ((((x >>> 32) >>> 16).toNat : Int) ≥ 256))) F rfl rfl rfl (Sx.i_ge rfl)) (Sx.wanted_none rfl _) rfl (by decide) (fun A F => ?_)
      refine Sx.nil ?_
      refine hK9 _ _ ?_
      refine wp_cond_split (F.ev (x := _) rfl) (fun hc => ?_) (fun hc => ?_)
      · skip
        have hw3 := of_decide_eq_true hc; clear hc
        refine Sx.seq (fun K10 hK10 => ?_)
        refine Sx.plain ?_
        refine Sx.sv F (Sx.d_move F (Or.inl rfl) rfl) (Sx.wanted_none rfl _) rfl (by decide) (fun A F => ?_)
        refine Sx.sv F (Sx.d_bin (v := .int .u64 ((((x >>> 32) >>> 16) >>> 8).toNat)) F rfl rfl rfl (Sx.i_shr64 ((x >>> 32) >>> 16) 8 (by decide) _)) (Sx.wanted_none rfl _) rfl (by decide) (fun A F => ?_)
        refine Sx.sv F (Sx.d_move F (Or.inr rfl) rfl) (Sx.wanted_none rfl _) rfl (by decide) (fun A F => ?_)
        refine Sx.nil ?_
        refine hK10 _ _ ?_
        refine Sx.plain ?_
        refine Sx.sv F (Sx.d_move F (Or.inl rfl) rfl) (Sx.wanted_none rfl _) rfl (by decide) (fun A F => ?_)
        refine Sx.sv F (Sx.d_bin (v := .int .i64 56) F rfl rfl rfl (Sx.i_addS (by decide))) (Sx.wanted_none rfl _) rfl (by decide) (fun A F => ?_)
        refine Sx.sv F (Sx.d_move F (Or.inr rfl) rfl) (Sx.wanted_none rfl _) rfl (by decide) (fun A F => ?_)
        refine Sx.nil ?_
        refine hK8 _ _ ?_
        refine Sx.seq (fun K11 hK11 => ?_)
        refine Sx.plain ?_
        refine Sx.sv F (Sx.d_move F (Or.inl rfl) rfl) (Sx.wanted_none rfl _) rfl (by decide) (fun A F => ?_)
        refine Sx.sv F (Sx.d_move F (Or.inl rfl) rfl) (Sx.wanted_none rfl _) rfl (by decide) (fun A F => ?_)
        refine Sx.sv F (Sx.d_conv (v := .int .u8 ((((x >>> 32) >>> 16) >>> 8).toNat % 256 : Nat)) F rfl rfl (Sx.c_u64_u8 (((x >>> 32) >>> 16) >>> 8) _ rfl)) (Sx.wanted_none rfl _) rfl (by decide) (fun A F => ?_)
        refine Sx.sv F (Sx.d_index (v := .int .u8 (Ln.l8 ((((x >>> 32) >>> 16) >>> 8).toNat % 256))) F rfl rfl rfl (Sx.run_index_str (s := Ln.tab8) (k := (((x >>> 32) >>> 16) >>> 8).toNat % 256) Sx.undStr (Ln.tab _ (Nat.mod_lt _ (by decide))))) (Sx.wanted_none rfl _) rfl (by decide) (fun A F => ?_)
        refine Sx.sv F (Sx.d_conv (v := .int .i64 (Ln.l8 ((((x >>> 32) >>> 16) >>> 8).toNat % 256))) F rfl rfl (Sx.c_u8_i64 _ (by have := (Ln.l8s ⟨(((x >>> 32) >>> 16) >>> 8).toNat % 256, Nat.mod_lt _ (by decide)⟩).1; dsimp only at this; omega))) (Sx.wanted_none rfl _) rfl (by decide) (fun A F => ?_)
        refine Sx.sv F (Sx.d_bin (v := .int .i64 (56 + Ln.l8 ((((x >>> 32) >>> 16) >>> 8).toNat % 256) : Nat)) F rfl rfl rfl (Sx.i_addN rfl (Sx.in_i64 _ (by have := (Ln.l8s ⟨(((x >>> 32) >>> 16) >>> 8).toNat % 256, Nat.mod_lt _ (by decide)⟩).1; dsimp only at this; omega)))) (Sx.wanted_none rfl _) rfl (by decide) (fun A F => ?_)
        refine Sx.sv F (Sx.d_move F (Or.inr rfl) rfl) (Sx.wanted_none rfl _) rfl (by decide) (fun A F => ?_)
        refine Sx.nil ?_
        refine hK11 _ _ ?_
        refine wp_ret ?_
        try dsimp only [Exit.then, Exit.inBlock, Exit.jump]
        refine Sx.ret1 F Try.results54 (Sx.res_tmp (v := .int .i64 (56 + Ln.l8 ((((x >>> 32) >>> 16) >>> 8).toNat % 256) : Nat)) F rfl) ⟨?_, H.below⟩
        rw [show (((x >>> 32) >>> 16) >>> 8).toNat = x.toNat / 2 ^ 56 from by first | (simp; done) | (simp only [BitVec.toNat_ushiftRight, Nat.shiftRight_eq_div_pow] <;> omega)]; have ho : x.toNat < 18446744073709551616 := x.isLt; (try simp only [BitVec.toNat_ushiftRight, Nat.shiftRight_eq_div_pow] at *); rw [Ln.way x 56 _ rfl (by decide) (by omega) (by omega)]
      · skip
        have hw4 := of_decide_eq_false hc; clear hc
        refine wp_skip ?_
        refine hK8 _ _ ?_
        refine Sx.seq (fun K12 hK12 => ?_)
        refine Sx.plain ?_
        refine Sx.sv F (Sx.d_move F (Or.inl rfl) rfl) (Sx.wanted_none rfl _) rfl (by decide) (fun A F => ?_)
        refine Sx.sv F (Sx.d_move F (Or.inl rfl) rfl) (Sx.wanted_none rfl _) rfl (by decide) (fun A F => ?_)
        refine Sx.sv F (Sx.d_conv (v := .int .u8 (((x >>> 32) >>> 16).toNat % 256 : Nat)) F rfl rfl (Sx.c_u64_u8 ((x >>> 32) >>> 16) _ rfl)) (Sx.wanted_none rfl _) rfl (by decide) (fun A F => ?_)
        refine Sx.sv F (Sx.d_index (v := .int .u8 (Ln.l8 (((x >>> 32) >>> 16).toNat % 256))) F rfl rfl rfl (Sx.run_index_str (s := Ln.tab8) (k := ((x >>> 32) >>> 16).toNat % 256) Sx.undStr (Ln.tab _ (Nat.mod_lt _ (by decide))))) (Sx.wanted_none rfl _) rfl (by decide) (fun A F => ?_)
        refine Sx.sv F (Sx.d_conv (v := .int .i64 (Ln.l8 (((x >>> 32) >>> 16).toNat % 256))) F rfl rfl (Sx.c_u8_i64 _ (by have := (Ln.l8s ⟨((x >>> 32) >>> 16).toNat % 256, Nat.mod_lt _ (by decide)⟩).1; dsimp only at this; omega))) (Sx.wanted_none rfl _) rfl (by decide) (fun A F => ?_)
        refine Sx.sv F (Sx.d_bin (v := .int .i64 (48 + Ln.l8 (((x >>> 32) >>> 16).toNat % 256) : Nat)) F rfl rfl rfl (Sx.i_addN rfl (Sx.in_i64 _ (by have := (Ln.l8s ⟨((x >>> 32) >>> 16).toNat % 256, Nat.mod_lt _ (by decide)⟩).1; dsimp only at this; omega)))) (Sx.wanted_none rfl _) rfl (by decide) (fun A F => ?_)
        refine Sx.sv F (Sx.d_move F (Or.inr rfl) rfl) (Sx.wanted_none rfl _) rfl (by decide) (fun A F => ?_)
        refine Sx.nil ?_
        refine hK12 _ _ ?_
        refine wp_ret ?_
        try dsimp only [Exit.then, Exit.inBlock, Exit.jump]
        refine Sx.ret1 F Try.results54 (Sx.res_tmp (v := .int .i64 (48 + Ln.l8 (((x >>> 32) >>> 16).toNat % 256) : Nat)) F rfl) ⟨?_, H.below⟩
        rw [show ((x >>> 32) >>> 16).toNat = x.toNat / 2 ^ 48 from by first | (simp; done) | (simp only [BitVec.toNat_ushiftRight, Nat.shiftRight_eq_div_pow] <;> omega)]; have ho : x.toNat < 18446744073709551616 := x.isLt; (try simp only [BitVec.toNat_ushiftRight, Nat.shiftRight_eq_div_pow] at *); rw [Ln.way x 48 _ rfl (by decide) (by omega) (by omega)]
    · skip
      have hw5 := of_decide_eq_false hc; clear hc
      refine wp_skip ?_
      refine hK5 _ _ ?_
      refine Sx.seq (fun K13 hK13 => ?_)
      refine Sx.seq (fun K14 hK14 => ?_)
      refine Sx.plain ?_
      refine Sx.sv F (Sx.d_move F (Or.inl rfl) rfl) (Sx.wanted_none rfl _) rfl (by decide) (fun A F => ?_)
      refine Sx.sv F (Sx.d_bin (v := .bool (decide (((x >>> 32).toNat : Int) ≥ 256))) F rfl rfl rfl (Sx.i_ge rfl)) (Sx.wanted_none rfl _) rfl (by decide) (fun A F => ?_)
      refine Sx.nil ?_
      refine hK14 _ _ ?_
      refine wp_cond_split (F.ev (x := _) rfl) (fun hc => ?_) (fun hc => ?_)
      · skip
        have hw6 := of_decide_eq_true hc; clear hc
        refine Sx.seq (fun K15 hK15 => ?_)
        refine Sx.plain ?_
        refine Sx.sv F (Sx.d_move F (Or.inl rfl) rfl) (Sx.wanted_none rfl _) rfl (by decide) (fun A F => ?_)
        refine Sx.sv F (Sx.d_bin (v := .int .u64 (((x >>> 32) >>> 8).toNat)) F rfl rfl rfl (Sx.i_shr64 (x >>> 32) 8 (by decide) _)) (Sx.wanted_none rfl _) rfl (by decide) (fun A F => ?_)
        refine Sx.sv F (Sx.d_move F (Or.inr rfl) rfl) (Sx.wanted_none rfl _) rfl (by decide) (fun A F => ?_)
        refine Sx.nil ?_
        refine hK15 _ _ ?_
        refine Sx.plain ?_
        refine Sx.sv F (Sx.d_move F (Or.inl rfl) rfl) (Sx.wanted_none rfl _) rfl (by decide) (fun A F => ?_)
        refine Sx.sv F (Sx.d_bin (v := .int .i64 40) F rfl rfl rfl (Sx.i_addS (by decide))) (Sx.wanted_none rfl _) rfl (by decide) (fun A F => ?_)
        refine Sx.sv F (Sx.d_move F (Or.inr rfl) rfl) (Sx.wanted_none rfl _) rfl (by decide) (fun A F => ?_)
        refine Sx.nil ?_
        refine hK13 _ _ ?_
        refine Sx.seq (fun K16 hK16 => ?_)
        refine Sx.plain ?_
        refine Sx.sv F (Sx.d_move F (Or.inl rfl) rfl) (Sx.wanted_none rfl _) rfl (by decide) (fun A F => ?_)
        refine Sx.sv F (Sx.d_move F (Or.inl rfl) rfl) (Sx.wanted_none rfl _) rfl (by decide) (fun A F => ?_)
        refine Sx.sv F (Sx.d_conv (v := .int .u8 (((x >>> 32) >>> 8).toNat % 256 : Nat)) F rfl rfl (Sx.c_u64_u8 ((x >>> 32) >>> 8) _ rfl)) (Sx.wanted_none rfl _) rfl (by decide) (fun A F => ?_)
        refine Sx.sv F (Sx.d_index (v := .int .u8 (Ln.l8 (((x >>> 32) >>> 8).toNat % 256))) F rfl rfl rfl (Sx.run_index_str (s := Ln.tab8) (k := ((x >>> 32) >>> 8).toNat % 256) Sx.undStr (Ln.tab _ (Nat.mod_lt _ (by decide))))) (Sx.wanted_none rfl _) rfl (by decide) (fun A F => ?_)
        refine Sx.sv F (Sx.d_conv (v := .int .i64 (Ln.l8 (((x >>> 32) >>> 8).toNat % 256))) F rfl rfl (Sx.c_u8_i64 _ (by have := (Ln.l8s ⟨((x >>> 32) >>> 8).toNat % 256, Nat.mod_lt _ (by decide)⟩).1; dsimp only at this; omega))) (Sx.wanted_none rfl _) rfl (by decide) (fun A F => ?_)
        refine Sx.sv F (Sx.d_bin (v := .int .i64 (40 + Ln.l8 (((x >>> 32) >>> 8).toNat % 256) : Nat)) F rfl rfl rfl (Sx.i_addN rfl (Sx.in_i64 _ (by have := (Ln.l8s ⟨((x >>> 32) >>> 8).toNat % 256, Nat.mod_lt _ (by decide)⟩).1; dsimp only at this; omega)))) (Sx.wanted_none rfl _) rfl (by decide) (fun A F => ?_)
        refine Sx.sv F (Sx.d_move F (Or.inr rfl) rfl) (Sx.wanted_none rfl _) rfl (by decide) (fun A F => ?_)
        refine Sx.nil ?_
        refine hK16 _ _ ?_
        refine wp_ret ?_
        try dsimp only [Exit.then, Exit.inBlock, Exit.jump]
        refine Sx.ret1 F Try.results54 (Sx.res_tmp (v := .int .i64 (40 + Ln.l8 (((x >>> 32) >>> 8).toNat % 256) : Nat)) F rfl) ⟨?_, H.below⟩
        rw [show ((x >>> 32) >>> 8).toNat = x.toNat / 2 ^ 40 from by first | (simp; done) | (simp only [BitVec.toNat_ushiftRight, Nat.shiftRight_eq_div_pow] <;> omega)]; have ho : x.toNat < 18446744073709551616 := x.isLt; (try simp only [BitVec.toNat_ushiftRight, Nat.shiftRight_eq_div_pow] at *); rw [Ln.way x 40 _ rfl (by decide) (by omega) (by omega)]
      · skip
        have hw7 := of_decide_eq_false hc; clear hc
        refine wp_skip ?_
        refine hK13 _ _ ?_
        refine Sx.seq (fun K17 hK17 => ?_)
        refine Sx.plain ?_
        refine Sx.sv F (Sx.d_move F (Or.inl rfl) rfl) (Sx.wanted_none rfl _) rfl (by decide) (fun A F => ?_)
        refine Sx.sv F (Sx.d_move F (Or.inl rfl) rfl) (Sx.wanted_none rfl _) rfl (by decide) (fun A F => ?_)
        refine Sx.sv F (Sx.d_conv (v := .int .u8 ((x >>> 32).toNat % 256 : Nat)) F rfl rfl (Sx.c_u64_u8 (x >>> 32) _ rfl)) (Sx.wanted_none rfl _) rfl (by decide) (fun A F => ?_)
        refine Sx.sv F (Sx.d_index (v := .int .u8 (Ln.l8 ((x >>> 32).toNat % 256))) F rfl rfl rfl (Sx.run_index_str (s := Ln.tab8) (k := (x >>> 32).toNat % 256) Sx.undStr (Ln.tab _ (Nat.mod_lt _ (by decide))))) (Sx.wanted_none rfl _) rfl (by decide) (fun A F => ?_)
        refine Sx.sv F (Sx.d_conv (v := .int .i64 (Ln.l8 ((x >>> 32).toNat % 256))) F rfl rfl (Sx.c_u8_i64 _ (by have := (Ln.l8s ⟨(x >>> 32).toNat % 256, Nat.mod_lt _ (by decide)⟩).1; dsimp only at this; omega))) (Sx.wanted_none rfl _) rfl (by decide) (fun A F => ?_)
        refine Sx.sv F (Sx.d_bin (v := .int .i64 (32 + Ln.l8 ((x >>> 32).toNat % 256) : Nat)) F rfl rfl rfl (Sx.i_addN rfl (Sx.in_i64 _ (by have := (Ln.l8s ⟨(x >>> 32).toNat % 256, Nat.mod_lt _ (by decide)⟩).1; dsimp only at this; omega)))) (Sx.wanted_none rfl _) rfl (by decide) (fun A F => ?_)
        refine Sx.sv F (Sx.d_move F (Or.inr rfl) rfl) (Sx.wanted_none rfl _) rfl (by decide) (fun A F => ?_)
        refine Sx.nil ?_
        refine hK17 _ _ ?_
        refine wp_ret ?_
        try dsimp only [Exit.then, Exit.inBlock, Exit.jump]
        refine Sx.ret1 F Try.results54 (Sx.res_tmp (v := .int .i64 (32 + Ln.l8 ((x >>> 32).toNat % 256) : Nat)) F rfl) ⟨?_, H.below⟩
        rw [show (x >>> 32).toNat = x.toNat / 2 ^ 32 from by first | (simp; done) | (simp only [BitVec.toNat_ushiftRight, Nat.shiftRight_eq_div_pow] <;> omega)]; have ho : x.toNat < 18446744073709551616 := x.isLt; (try simp only [BitVec.toNat_ushiftRight, Nat.shiftRight_eq_div_pow] at *); rw [Ln.way x 32 _ rfl (by decide) (by omega) (by omega)]
  · skip
    have hw8 := of_decide_eq_false hc; clear hc
    refine wp_skip ?_
    refine hK2 _ _ ?_
    refine Sx.seq (fun K18 hK18 => ?_)
    refine Sx.seq (fun K19 hK19 => ?_)
    refine Sx.plain ?_
    refine Sx.sv F (Sx.d_move F (Or.inl rfl) rfl) (Sx.wanted_none rfl _) rfl (by decide) (fun A F => ?_)
    refine Sx.sv F (Sx.d_bin (v := .bool (decide ((x.toNat : Int) ≥ 65536))) F rfl rfl rfl (Sx.i_ge rfl)) (Sx.wanted_none rfl _) rfl (by decide) (fun A F => ?_)
    refine Sx.nil ?_
    refine hK19 _ _ ?_
    refine wp_cond_split (F.ev (x := _) rfl) (fun hc => ?_) (fun hc => ?_)
    · skip
      have hw9 := of_decide_eq_true hc; clear hc
      refine Sx.seq (fun K20 hK20 => ?_)
      refine Sx.plain ?_
      refine Sx.sv F (Sx.d_move F (Or.inl rfl) rfl) (Sx.wanted_none rfl _) rfl (by decide) (fun A F => ?_)
      refine Sx.sv F (Sx.d_bin (v := .int .u64 ((x >>> 16).toNat)) F rfl rfl rfl (Sx.i_shr64 x 16 (by decide) _)) (Sx.wanted_none rfl _) rfl (by decide) (fun A F => ?_)
      refine Sx.sv F (Sx.d_move F (Or.inr rfl) rfl) (Sx.wanted_none rfl _) rfl (by decide) (fun A F => ?_)
      refine Sx.nil ?_
      refine hK20 _ _ ?_
      refine Sx.plain ?_
      refine Sx.sv F (Sx.d_move F (Or.inl rfl) rfl) (Sx.wanted_none rfl _) rfl (by decide) (fun A F => ?_)
      refine Sx.sv F (Sx.d_bin (v := .int .i64 16) F rfl rfl rfl (Sx.i_addS (by decide))) (Sx.wanted_none rfl _) rfl (by decide) (fun A F => ?_)
      refine Sx.sv F (Sx.d_move F (Or.inr rfl) rfl) (Sx.wanted_none rfl _) rfl (by decide) (fun A F => ?_)
      refine Sx.nil ?_
      refine hK18 _ _ ?_
      refine Sx.seq (fun K21 hK21 => ?_)
      refine Sx.seq (fun K22 hK22 => ?_)
      refine Sx.plain ?_
      refine Sx.sv F (Sx.d_move F (Or.inl rfl) rfl) (Sx.wanted_none rfl _) rfl (by decide) (fun A F => ?_)
      refine Sx.sv F (Sx.d_bin (v := .bool (decide (((x >>> 16).toNat : Int) ≥ 256))) F rfl rfl rfl (Sx.i_ge rfl)) (Sx.wanted_none rfl _) rfl (by decide) (fun A F => ?_)
      refine Sx.nil ?_
      refine hK22 _ _ ?_
      refine wp_cond_split (F.ev (x := _) rfl) (fun hc => ?_) (fun hc => ?_)
      · skip
        have hw10 := of_decide_eq_true hc; clear hc
        refine Sx.seq (fun K23 hK23 => ?_)
        refine Sx.plain ?_
        refine Sx.sv F (Sx.d_move F (Or.inl rfl) rfl) (Sx.wanted_none rfl _) rfl (by decide) (fun A F => ?_)
        refine Sx.sv F (Sx.d_bin (v := .int .u64 (((x >>> 16) >>> 8).toNat)) F rfl rfl rfl (Sx.i_shr64 (x >>> 16) 8 (by decide) _)) (Sx.wanted_none rfl _) rfl (by decide) (fun A F => ?_)
        refine Sx.sv F (Sx.d_move F (Or.inr rfl) rfl) (Sx.wanted_none rfl _) rfl (by decide) (fun A F => ?_)
        refine Sx.nil ?_
        refine hK23 _ _ ?_
        refine Sx.plain ?_
        refine Sx.sv F (Sx.d_move F (Or.inl rfl) rfl) (Sx.wanted_none rfl _) rfl (by decide) (fun A F => ?_)
        refine Sx.sv F (Sx.d_bin (v := .int .i64 24) F rfl rfl rfl (Sx.i_addS (by decide))) (Sx.wanted_none rfl _) rfl (by decide) (fun A F => ?_)
        refine Sx.sv F (Sx.d_move F (Or.inr rfl) rfl) (Sx.wanted_none rfl _) rfl (by decide) (fun A F => ?_)
        refine Sx.nil ?_
        refine hK21 _ _ ?_
        refine Sx.seq (fun K24 hK24 => ?_)
        refine Sx.plain ?_
        refine Sx.sv F (Sx.d_move F (Or.inl rfl) rfl) (Sx.wanted_none rfl _) rfl (by decide) (fun A F => ?_)
        refine Sx.sv F (Sx.d_move F (Or.inl rfl) rfl) (Sx.wanted_none rfl _) rfl (by decide) (fun A F => ?_)
        refine Sx.sv F (Sx.d_conv (v := .int .u8 (((x >>> 16) >>> 8).toNat % 256 : Nat)) F rfl rfl (Sx.c_u64_u8 ((x >>> 16) >>> 8) _ rfl)) (Sx.wanted_none rfl _) rfl (by decide) (fun A F => ?_)
        refine Sx.sv F (Sx.d_index (v := .int .u8 (Ln.l8 (((x >>> 16) >>> 8).toNat % 256))) F rfl rfl rfl (Sx.run_index_str (s := Ln.tab8) (k := ((x >>> 16) >>> 8).toNat % 256) Sx.undStr (Ln.tab _ (Nat.mod_lt _ (by decide))))) (Sx.wanted_none rfl _) rfl (by decide) (fun A F => ?_)
        refine Sx.sv F (Sx.d_conv (v := .int .i64 (Ln.l8 (((x >>> 16) >>> 8).toNat % 256))) F rfl rfl (Sx.c_u8_i64 _ (by have := (Ln.l8s ⟨((x >>> 16) >>> 8).toNat % 256, Nat.mod_lt _ (by decide)⟩).1; dsimp only at this; omega))) (Sx.wanted_none rfl _) rfl (by decide) (fun A F => ?_)
        refine Sx.sv F (Sx.d_bin (v := .int .i64 (24 + Ln.l8 (((x >>> 16) >>> 8).toNat % 256) : Nat)) F rfl rfl rfl (Sx.i_addN rfl (Sx.in_i64 _ (by have := (Ln.l8s ⟨((x >>> 16) >>> 8).toNat % 256, Nat.mod_lt _ (by decide)⟩).1; dsimp only at this; omega)))) (Sx.wanted_none rfl _) rfl (by decide) (fun A F => ?_)
        refine Sx.sv F (Sx.d_move F (Or.inr rfl) rfl) (Sx.wanted_none rfl _) rfl (by decide) (fun A F => ?_)
        refine Sx.nil ?_
        refine hK24 _ _ ?_
        refine wp_ret ?_
        try dsimp only [Exit.then, Exit.inBlock, Exit.jump]
        refine Sx.ret1 F Try.results54 (Sx.res_tmp (v := .int .i64 (24 + Ln.l8 (((x >>> 16) >>> 8).toNat % 256) : Nat)) F rfl) ⟨?_, H.below⟩
        rw [show ((x >>> 16) >>> 8).toNat = x.toNat / 2 ^ 24 from by first | (simp; done) | (simp only [BitVec.toNat_ushiftRight, Nat.shiftRight_eq_div_pow] <;> omega)]; have ho : x.toNat < 18446744073709551616 := x.isLt; (try simp only [BitVec.toNat_ushiftRight, Nat.shiftRight_eq_div_pow] at *); rw [Ln.way x 24 _ rfl (by decide) (by omega) (by omega)]
      · skip
        have hw11 := of_decide_eq_false hc; clear hc
        refine wp_skip ?_
        refine hK21 _ _ ?_
        refine Sx.seq (fun K25 hK25 => ?_)
        refine Sx.plain ?_
        refine Sx.sv F (Sx.d_move F (Or.inl rfl) rfl) (Sx.wanted_none rfl _) rfl (by decide) (fun A F => ?_)
        refine Sx.sv F (Sx.d_move F (Or.inl rfl) rfl) (Sx.wanted_none rfl _) rfl (by decide) (fun A F => ?_)
        refine Sx.sv F (Sx.d_conv (v := .int .u8 ((x >>> 16).toNat % 256 : Nat)) F rfl rfl (Sx.c_u64_u8 (x >>> 16) _ rfl)) (Sx.wanted_none rfl _) rfl (by decide) (fun A F => ?_)
        refine Sx.sv F (Sx.d_index (v := .int .u8 (Ln.l8 ((x >>> 16).toNat % 256))) F rfl rfl rfl (Sx.run_index_str (s := Ln.tab8) (k := (x >>> 16).toNat % 256) Sx.undStr (Ln.tab _ (Nat.mod_lt _ (by decide))))) (Sx.wanted_none rfl _) rfl (by decide) (fun A F => ?_)
        refine Sx.sv F (Sx.d_conv (v := .int .i64 (Ln.l8 ((x >>> 16).toNat % 256))) F rfl rfl (Sx.c_u8_i64 _ (by have := (Ln.l8s ⟨(x >>> 16).toNat % 256, Nat.mod_lt _ (by decide)⟩).1; dsimp only at this; omega))) (Sx.wanted_none rfl _) rfl (by decide) (fun A F => ?_)
        refine Sx.sv F (Sx.d_bin (v := .int .i64 (16 + Ln.l8 ((x >>> 16).toNat % 256) : Nat)) F rfl rfl rfl (Sx.i_addN rfl (Sx.in_i64 _ (by have := (Ln.l8s ⟨(x >>> 16).toNat % 256, Nat.mod_lt _ (by decide)⟩).1; dsimp only at this; omega)))) (Sx.wanted_none rfl _) rfl (by decide) (fun A F => ?_)
        refine Sx.sv F (Sx.d_move F (Or.inr rfl) rfl) (Sx.wanted_none rfl _) rfl (by decide) (fun A F => ?_)
        refine Sx.nil ?_
        refine hK25 _ _ ?_
        refine wp_ret ?_
        try dsimp only [Exit.then, Exit.inBlock, Exit.jump]
        refine Sx.ret1 F Try.results54 (Sx.res_tmp (v := .int .i64 (16 + Ln.l8 ((x >>> 16).toNat % 256) : Nat)) F rfl) ⟨?_, H.below⟩
        rw [show (x >>> 16).toNat = x.toNat / 2 ^ 16 from by first | (simp; done) | (simp only [BitVec.toNat_ushiftRight, Nat.shiftRight_eq_div_pow] <;> omega)]; have ho : x.toNat < 18446744073709551616 := x.isLt; (try simp only [BitVec.toNat_ushiftRight, Nat.shiftRight_eq_div_pow] at *); rw [Ln.way x 16 _ rfl (by decide) (by omega) (by omega)]
    · skip
      have hw12 := of_decide_eq_false hc; clear hc
      refine wp_skip ?_
      refine hK18 _ _ ?_
      refine Sx.seq (fun K26 hK26 => ?_)
      refine Sx.seq (fun K27 hK27 => ?_)
      refine Sx.plain ?_
      refine Sx.sv F (Sx.d_move F (Or.inl rfl) rfl) (Sx.wanted_none rfl _) rfl (by decide) (fun A F => ?_)
      refine Sx.sv F (Sx.d_bin (v := .bool (decide ((x.toNat : Int) ≥ 256))) F rfl rfl rfl (Sx.i_ge rfl)) (Sx.wanted_none rfl _) rfl (by decide) (fun A F => ?_)
      refine Sx.nil ?_
      refine hK27 _ _ ?_
      refine wp_cond_split (F.ev (x := _) rfl) (fun hc => ?_) (fun hc => ?_)
      · skip
        have hw13 := of_decide_eq_true hc; clear hc
        refine Sx.seq (fun K28 hK28 => ?_)
        refine Sx.plain ?_
        refine Sx.sv F (Sx.d_move F (Or.inl rfl) rfl) (Sx.wanted_none rfl _) rfl (by decide) (fun A F => ?_)
        refine Sx.sv F (Sx.d_bin (v := .int .u64 ((x >>> 8).toNat)) F rfl rfl rfl (Sx.i_shr64 x 8 (by decide) _)) (Sx.wanted_none rfl _) rfl (by decide) (fun A F => ?_)
        refine Sx.sv F (Sx.d_move F (Or.inr rfl) rfl) (Sx.wanted_none rfl _) rfl (by decide) (fun A F => ?_)
        refine Sx.nil ?_
        refine hK28 _ _ ?_
        refine Sx.plain ?_
        refine Sx.sv F (Sx.d_move F (Or.inl rfl) rfl) (Sx.wanted_none rfl _) rfl (by decide) (fun A F => ?_)
        refine Sx.sv F (Sx.d_bin (v := .int .i64 8) F rfl rfl rfl (Sx.i_addS (by decide))) (Sx.wanted_none rfl _) rfl (by decide) (fun A F => ?_)
        refine Sx.sv F (Sx.d_move F (Or.inr rfl) rfl) (Sx.wanted_none rfl _) rfl (by decide) (fun A F => ?_)
        refine Sx.nil ?_
        refine hK26 _ _ ?_
        refine Sx.seq (fun K29 hK29 => ?_)
        refine Sx.plain ?_
        refine Sx.sv F (Sx.d_move F (Or.inl rfl) rfl) (Sx.wanted_none rfl _) rfl (by decide) (fun A F => ?_)
        refine Sx.sv F (Sx.d_move F (Or.inl rfl) rfl) (Sx.wanted_none rfl _) rfl (by decide) (fun A F => ?_)
        refine Sx.sv F (Sx.d_conv (v := .int .u8 ((x >>> 8).toNat % 256 : Nat)) F rfl rfl (Sx.c_u64_u8 (x >>> 8) _ rfl)) (Sx.wanted_none rfl _) rfl (by decide) (fun A F => ?_)
        refine Sx.sv F (Sx.d_index (v := .int .u8 (Ln.l8 ((x >>> 8).toNat % 256))) F rfl rfl rfl (Sx.run_index_str (s := Ln.tab8) (k := (x >>> 8).toNat % 256) Sx.undStr (Ln.tab _ (Nat.mod_lt _ (by decide))))) (Sx.wanted_none rfl _) rfl (by decide) (fun A F => ?_)
        refine Sx.sv F (Sx.d_conv (v := .int .i64 (Ln.l8 ((x >>> 8).toNat % 256))) F rfl rfl (Sx.c_u8_i64 _ (by have := (Ln.l8s ⟨(x >>> 8).toNat % 256, Nat.mod_lt _ (by decide)⟩).1; dsimp only at this; omega))) (Sx.wanted_none rfl _) rfl (by decide) (fun A F => ?_)
        refine Sx.sv F (Sx.d_bin (v := .int .i64 (8 + Ln.l8 ((x >>> 8).toNat % 256) : Nat)) F rfl rfl rfl (Sx.i_addN rfl (Sx.in_i64 _ (by have := (Ln.l8s ⟨(x >>> 8).toNat % 256, Nat.mod_lt _ (by decide)⟩).1; dsimp only at this; omega)))) (Sx.wanted_none rfl _) rfl (by decide) (fun A F => ?_)
        refine Sx.sv F (Sx.d_move F (Or.inr rfl) rfl) (Sx.wanted_none rfl _) rfl (by decide) (fun A F => ?_)
        refine Sx.nil ?_
        refine hK29 _ _ ?_
        refine wp_ret ?_
        try dsimp only [Exit.then, Exit.inBlock, Exit.jump]
        refine Sx.ret1 F Try.results54 (Sx.res_tmp (v := .int .i64 (8 + Ln.l8 ((x >>> 8).toNat % 256) : Nat)) F rfl) ⟨?_, H.below⟩
        rw [show (x >>> 8).toNat = x.toNat / 2 ^ 8 from by first | (simp; done) | (simp only [BitVec.toNat_ushiftRight, Nat.shiftRight_eq_div_pow] <;> omega)]; have ho : x.toNat < 18446744073709551616 := x.isLt; (try simp only [BitVec.toNat_ushiftRight, Nat.shiftRight_eq_div_pow] at *); rw [Ln.way x 8 _ rfl (by decide) (by omega) (by omega)]
      · skip
        have hw14 := of_decide_eq_false hc; clear hc
        refine wp_skip ?_
        refine hK26 _ _ ?_
        refine Sx.seq (fun K30 hK30 => ?_)
        refine Sx.plain ?_
        refine Sx.sv F (Sx.d_move F (Or.inl rfl) rfl) (Sx.wanted_none rfl _) rfl (by decide) (fun A F => ?_)
        refine Sx.sv F (Sx.d_move F (Or.inl rfl) rfl) (Sx.wanted_none rfl _) rfl (by decide) (fun A F => ?_)
        refine Sx.sv F (Sx.d_conv (v := .int .u8 (x.toNat % 256 : Nat)) F rfl rfl (Sx.c_u64_u8 x _ rfl)) (Sx.wanted_none rfl _) rfl (by decide) (fun A F => ?_)
        refine Sx.sv F (Sx.d_index (v := .int .u8 (Ln.l8 (x.toNat % 256))) F rfl rfl rfl (Sx.run_index_str (s := Ln.tab8) (k := x.toNat % 256) Sx.undStr (Ln.tab _ (Nat.mod_lt _ (by decide))))) (Sx.wanted_none rfl _) rfl (by decide) (fun A F => ?_)
        refine Sx.sv F (Sx.d_conv (v := .int .i64 (Ln.l8 (x.toNat % 256))) F rfl rfl (Sx.c_u8_i64 _ (by have := (Ln.l8s ⟨x.toNat % 256, Nat.mod_lt _ (by decide)⟩).1; dsimp only at this; omega))) (Sx.wanted_none rfl _) rfl (by decide) (fun A F => ?_)
        refine Sx.sv F (Sx.d_bin (v := .int .i64 (0 + Ln.l8 (x.toNat % 256) : Nat)) F rfl rfl rfl (Sx.i_addN rfl (Sx.in_i64 _ (by have := (Ln.l8s ⟨x.toNat % 256, Nat.mod_lt _ (by decide)⟩).1; dsimp only at this; omega)))) (Sx.wanted_none rfl _) rfl (by decide) (fun A F => ?_)
        refine Sx.sv F (Sx.d_move F (Or.inr rfl) rfl) (Sx.wanted_none rfl _) rfl (by decide) (fun A F => ?_)
        refine Sx.nil ?_
        refine hK30 _ _ ?_
        refine wp_ret ?_
        try dsimp only [Exit.then, Exit.inBlock, Exit.jump]
        refine Sx.ret1 F Try.results54 (Sx.res_tmp (v := .int .i64 (0 + Ln.l8 (x.toNat % 256) : Nat)) F rfl) ⟨?_, H.below⟩
        rw [show x.toNat = x.toNat / 2 ^ 0 from by first | (simp; done) | (simp only [BitVec.toNat_ushiftRight, Nat.shiftRight_eq_div_pow] <;> omega)]; have ho : x.toNat < 18446744073709551616 := x.isLt; (try simp only [BitVec.toNat_ushiftRight, Nat.shiftRight_eq_div_pow] at *); rw [Ln.way x 0 _ rfl (by decide) (by omega) (by omega)]
end Go.Proofs.Ytpbdffmgendboab
