/- The reference's Cmp, Right, Put, Take, Same walked. -/
import Derived.Test.YtpbdffmgendboabRbPlain
import Derived.Test.YtpbdffmgendboabWo
import Derived.Test.YtpbdffmgendboabSxE
namespace Go.Proofs.Ytpbdffmgendboab
open Go Go.RowKit
set_option maxRecDepth 100000 in
theorem rcmp_c (da db : BitVec 128) (w0 : World) : Calls Try.prog 26 #[.agg #[.int .u64 ((Wd.hi da).toNat), .int .u64 ((Wd.lo da).toNat)], .agg #[.int .u64 ((Wd.hi db).toNat), .int .u64 ((Wd.lo db).toNat)]] w0 fun e w' => e = .returned (.int .i64 (Wd.cmp da db)) ∧ Below w0.heap.size w0 w' := by
  refine Sx.enter (args := [.agg #[.int .u64 ((Wd.hi da).toNat), .int .u64 ((Wd.lo da).toNat)], .agg #[.int .u64 ((Wd.hi db).toNat), .int .u64 ((Wd.lo db).toNat)]]) Try.func26 rfl Try.ntmps26 (Nat.le_of_ble_eq_true rfl) (fun A F => ?_)
  have H := Sx.Own.start w0
  refine Sx.seq (fun K1 hK1 => ?_)
  refine Sx.plain ?_
  refine Sx.sb F (Sx.d_box F H rfl rfl [.int .u64 ((Wd.hi da).toNat), .int .u64 ((Wd.lo da).toNat)] rfl) (Sx.wanted_none rfl _) rfl (by decide) (fun g1 A w F H => ?_)
  refine Sx.sb F (Sx.d_box F H rfl rfl [.int .u64 ((Wd.hi db).toNat), .int .u64 ((Wd.lo db).toNat)] rfl) (Sx.wanted_none rfl _) rfl (by decide) (fun g2 A w F H => ?_)
  refine Sx.sv F (Sx.d_move F (Or.inr rfl) rfl) (Sx.wanted_none rfl _) rfl (by decide) (fun A F => ?_)
  refine Sx.nil ?_
  refine hK1 _ _ ?_
  rcases Nat.lt_trichotomy (Wd.hi da).toNat (Wd.hi db).toNat with hl | hl | hl
  · skip
    refine Sx.seq (fun K2 hK2 => ?_)
    refine Sx.seq (fun K3 hK3 => ?_)
    refine Sx.plain ?_
    refine Sx.sv F (Sx.d_load (i := 1) (xs := [.int .u64 ((Wd.hi da).toNat), .int .u64 ((Wd.lo da).toNat)]) rw_43 F H rfl rfl rfl rfl rfl) (Sx.wanted_none rfl _) rfl (by decide) (fun A F => ?_)
    refine Sx.sv F (Sx.d_load (i := 0) (xs := [.int .u64 ((Wd.hi db).toNat), .int .u64 ((Wd.lo db).toNat)]) rw_43 F H rfl rfl rfl rfl rfl) (Sx.wanted_none rfl _) rfl (by decide) (fun A F => ?_)
    refine Sx.sv F (Sx.d_bin (v := .bool false) F rfl rfl rfl (Sx.i_eqU (decide_eq_false (fun e => by rw [e] at hl; exact Nat.lt_irrefl _ hl)))) (Sx.wanted_none rfl _) rfl (by decide) (fun A F => ?_)
    refine Sx.nil ?_
    refine hK3 _ _ ?_
    refine Sx.condF F rfl ?_
    refine wp_skip ?_
    refine hK2 _ _ ?_
    refine Sx.seq (fun K4 hK4 => ?_)
    refine Sx.seq (fun K5 hK5 => ?_)
    refine Sx.plain ?_
    refine Sx.sv F (Sx.d_faddr (v := .pointer (some ⟨g1, 0, none⟩)) F rfl rfl (fa_43_0 _ 0 _)) (Sx.wanted_none rfl _) rfl (by decide) (fun A F => ?_)
    refine Sx.sv F (Sx.d_load1 (i := 1) (v := .int .u64 ((Wd.hi da).toNat)) one_22 F H rfl rfl rfl rfl) (Sx.wanted_none rfl _) rfl (by decide) (fun A F => ?_)
    refine Sx.sv F (Sx.d_faddr (v := .pointer (some ⟨g2, 0, none⟩)) F rfl rfl (fa_43_0 _ 0 _)) (Sx.wanted_none rfl _) rfl (by decide) (fun A F => ?_)
    refine Sx.sv F (Sx.d_load1 (i := 0) (v := .int .u64 ((Wd.hi db).toNat)) one_22 F H rfl rfl rfl rfl) (Sx.wanted_none rfl _) rfl (by decide) (fun A F => ?_)
    refine Sx.sv F (Sx.d_bin (v := .bool true) F rfl rfl rfl (Sx.i_lt (decide_eq_true (by omega)))) (Sx.wanted_none rfl _) rfl (by decide) (fun A F => ?_)
    refine Sx.sv F (Sx.d_move F (Or.inl rfl) rfl) (Sx.wanted_none rfl _) rfl (by decide) (fun A F => ?_)
    refine Sx.su F (Sx.wanted_off rfl (Sx.guard_known (d := 13) (b := true) F rfl rfl) rfl) rfl (by decide) (fun A F => ?_)
    refine Sx.su F (Sx.wanted_off rfl (Sx.guard_known (d := 13) (b := true) F rfl rfl) rfl) rfl (by decide) (fun A F => ?_)
    refine Sx.su F (Sx.wanted_off rfl (Sx.guard_known (d := 13) (b := true) F rfl rfl) rfl) rfl (by decide) (fun A F => ?_)
    refine Sx.su F (Sx.wanted_off rfl (Sx.guard_known (d := 13) (b := true) F rfl rfl) rfl) rfl (by decide) (fun A F => ?_)
    refine Sx.su F (Sx.wanted_off rfl (Sx.guard_known (d := 13) (b := true) F rfl rfl) rfl) rfl (by decide) (fun A F => ?_)
    refine Sx.su F (Sx.wanted_off rfl (Sx.guard_known (d := 13) (b := true) F rfl rfl) rfl) rfl (by decide) (fun A F => ?_)
    refine Sx.su F (Sx.wanted_undef rfl (Sx.guard_undef (d := 19) F rfl rfl)) rfl (by decide) (fun A F => ?_)
    refine Sx.su F (Sx.wanted_undef rfl (Sx.guard_undef (d := 19) F rfl rfl)) rfl (by decide) (fun A F => ?_)
    refine Sx.su F (Sx.wanted_undef rfl (Sx.guard_undef (d := 19) F rfl rfl)) rfl (by decide) (fun A F => ?_)
    refine Sx.su F (Sx.wanted_undef rfl (Sx.guard_undef (d := 19) F rfl rfl)) rfl (by decide) (fun A F => ?_)
    refine Sx.su F (Sx.wanted_undef rfl (Sx.guard_undef (d := 19) F rfl rfl)) rfl (by decide) (fun A F => ?_)
    refine Sx.su F (Sx.wanted_off rfl (Sx.guard_known (d := 13) (b := true) F rfl rfl) rfl) rfl (by decide) (fun A F => ?_)
    refine Sx.sv F (Sx.d_pickT (v := .bool true) F rfl rfl rfl) (Sx.wanted_none rfl _) rfl (by decide) (fun A F => ?_)
    refine Sx.nil ?_
    refine hK5 _ _ ?_
    refine Sx.condT F rfl ?_
    refine Sx.seq (fun K6 hK6 => ?_)
    refine Sx.plain ?_
    refine Sx.sv F (Sx.d_move F (Or.inr rfl) rfl) (Sx.wanted_none rfl _) rfl (by decide) (fun A F => ?_)
    refine Sx.nil ?_
    refine hK6 _ _ ?_
    refine wp_ret ?_
    try dsimp only [Exit.then, Exit.inBlock, Exit.jump]
    refine Sx.ret1 F Try.results26 (Sx.res_tmp (v := .int .i64 (-1)) F rfl) ⟨?_, H.below⟩
    rw [← Wd.cmp_hi da db (by omega), Wd.cmpN_lt hl]
  · rcases Nat.lt_trichotomy (Wd.lo da).toNat (Wd.lo db).toNat with hm | hm | hm
    · skip
      refine Sx.seq (fun K7 hK7 => ?_)
      refine Sx.seq (fun K8 hK8 => ?_)
      refine Sx.plain ?_
      refine Sx.sv F (Sx.d_load (i := 1) (xs := [.int .u64 ((Wd.hi da).toNat), .int .u64 ((Wd.lo da).toNat)]) rw_43 F H rfl rfl rfl rfl rfl) (Sx.wanted_none rfl _) rfl (by decide) (fun A F => ?_)
      refine Sx.sv F (Sx.d_load (i := 0) (xs := [.int .u64 ((Wd.hi db).toNat), .int .u64 ((Wd.lo db).toNat)]) rw_43 F H rfl rfl rfl rfl rfl) (Sx.wanted_none rfl _) rfl (by decide) (fun A F => ?_)
      refine Sx.sv F (Sx.d_bin (v := .bool false) F rfl rfl rfl (Sx.i_eqU (decide_eq_false (fun e => by rw [e] at hm; exact Nat.lt_irrefl _ hm)))) (Sx.wanted_none rfl _) rfl (by decide) (fun A F => ?_)
      refine Sx.nil ?_
      refine hK8 _ _ ?_
      refine Sx.condF F rfl ?_
      refine wp_skip ?_
      refine hK7 _ _ ?_
      refine Sx.seq (fun K9 hK9 => ?_)
      refine Sx.seq (fun K10 hK10 => ?_)
      refine Sx.plain ?_
      refine Sx.sv F (Sx.d_faddr (v := .pointer (some ⟨g1, 0, none⟩)) F rfl rfl (fa_43_0 _ 0 _)) (Sx.wanted_none rfl _) rfl (by decide) (fun A F => ?_)
      refine Sx.sv F (Sx.d_load1 (i := 1) (v := .int .u64 ((Wd.hi da).toNat)) one_22 F H rfl rfl rfl rfl) (Sx.wanted_none rfl _) rfl (by decide) (fun A F => ?_)
      refine Sx.sv F (Sx.d_faddr (v := .pointer (some ⟨g2, 0, none⟩)) F rfl rfl (fa_43_0 _ 0 _)) (Sx.wanted_none rfl _) rfl (by decide) (fun A F => ?_)
      refine Sx.sv F (Sx.d_load1 (i := 0) (v := .int .u64 ((Wd.hi db).toNat)) one_22 F H rfl rfl rfl rfl) (Sx.wanted_none rfl _) rfl (by decide) (fun A F => ?_)
      refine Sx.sv F (Sx.d_bin (v := .bool false) F rfl rfl rfl (Sx.i_lt (decide_eq_false (by omega)))) (Sx.wanted_none rfl _) rfl (by decide) (fun A F => ?_)
      refine Sx.sv F (Sx.d_move F (Or.inl rfl) rfl) (Sx.wanted_none rfl _) rfl (by decide) (fun A F => ?_)
      refine Sx.sv F (Sx.d_faddr (v := .pointer (some ⟨g1, 0, none⟩)) F rfl rfl (fa_43_0 _ 0 _)) (Sx.wanted_on rfl (Sx.guard_known (d := 13) (b := false) F rfl rfl) rfl) rfl (by decide) (fun A F => ?_)
      refine Sx.sv F (Sx.d_load1 (i := 1) (v := .int .u64 ((Wd.hi da).toNat)) one_22 F H rfl rfl rfl rfl) (Sx.wanted_on rfl (Sx.guard_known (d := 13) (b := false) F rfl rfl) rfl) rfl (by decide) (fun A F => ?_)
      refine Sx.sv F (Sx.d_faddr (v := .pointer (some ⟨g2, 0, none⟩)) F rfl rfl (fa_43_0 _ 0 _)) (Sx.wanted_on rfl (Sx.guard_known (d := 13) (b := false) F rfl rfl) rfl) rfl (by decide) (fun A F => ?_)
      refine Sx.sv F (Sx.d_load1 (i := 0) (v := .int .u64 ((Wd.hi db).toNat)) one_22 F H rfl rfl rfl rfl) (Sx.wanted_on rfl (Sx.guard_known (d := 13) (b := false) F rfl rfl) rfl) rfl (by decide) (fun A F => ?_)
      refine Sx.sv F (Sx.d_bin (v := .bool true) F rfl rfl rfl (Sx.i_eq (beq_iff_eq.2 (by omega)))) (Sx.wanted_on rfl (Sx.guard_known (d := 13) (b := false) F rfl rfl) rfl) rfl (by decide) (fun A F => ?_)
      refine Sx.sv F (Sx.d_move F (Or.inl rfl) rfl) (Sx.wanted_on rfl (Sx.guard_known (d := 13) (b := false) F rfl rfl) rfl) rfl (by decide) (fun A F => ?_)
      refine Sx.sv F (Sx.d_faddr (v := .pointer (some ⟨g1, 1, none⟩)) F rfl rfl (fa_43_1 _ 0 _)) (Sx.wanted_on rfl (Sx.guard_known (d := 19) (b := true) F rfl rfl) rfl) rfl (by decide) (fun A F => ?_)
      refine Sx.sv F (Sx.d_load1 (i := 1) (v := .int .u64 ((Wd.lo da).toNat)) one_22 F H rfl rfl rfl rfl) (Sx.wanted_on rfl (Sx.guard_known (d := 19) (b := true) F rfl rfl) rfl) rfl (by decide) (fun A F => ?_)
      refine Sx.sv F (Sx.d_faddr (v := .pointer (some ⟨g2, 1, none⟩)) F rfl rfl (fa_43_1 _ 0 _)) (Sx.wanted_on rfl (Sx.guard_known (d := 19) (b := true) F rfl rfl) rfl) rfl (by decide) (fun A F => ?_)
      refine Sx.sv F (Sx.d_load1 (i := 0) (v := .int .u64 ((Wd.lo db).toNat)) one_22 F H rfl rfl rfl rfl) (Sx.wanted_on rfl (Sx.guard_known (d := 19) (b := true) F rfl rfl) rfl) rfl (by decide) (fun A F => ?_)
      refine Sx.sv F (Sx.d_bin (v := .bool true) F rfl rfl rfl (Sx.i_lt (decide_eq_true (by omega)))) (Sx.wanted_on rfl (Sx.guard_known (d := 19) (b := true) F rfl rfl) rfl) rfl (by decide) (fun A F => ?_)
      refine Sx.sv F (Sx.d_pickT (v := .bool true) F rfl rfl rfl) (Sx.wanted_on rfl (Sx.guard_known (d := 13) (b := false) F rfl rfl) rfl) rfl (by decide) (fun A F => ?_)
      refine Sx.sv F (Sx.d_pickF (v := .bool true) F rfl rfl rfl) (Sx.wanted_none rfl _) rfl (by decide) (fun A F => ?_)
      refine Sx.nil ?_
      refine hK10 _ _ ?_
      refine Sx.condT F rfl ?_
      refine Sx.seq (fun K11 hK11 => ?_)
      refine Sx.plain ?_
      refine Sx.sv F (Sx.d_move F (Or.inr rfl) rfl) (Sx.wanted_none rfl _) rfl (by decide) (fun A F => ?_)
      refine Sx.nil ?_
      refine hK11 _ _ ?_
      refine wp_ret ?_
      try dsimp only [Exit.then, Exit.inBlock, Exit.jump]
      refine Sx.ret1 F Try.results26 (Sx.res_tmp (v := .int .i64 (-1)) F rfl) ⟨?_, H.below⟩
      rw [← Wd.cmp_lo da db hl, Wd.cmpN_lt hm]
    · skip
      refine Sx.seq (fun K12 hK12 => ?_)
      refine Sx.seq (fun K13 hK13 => ?_)
      refine Sx.plain ?_
      refine Sx.sv F (Sx.d_load (i := 1) (xs := [.int .u64 ((Wd.hi da).toNat), .int .u64 ((Wd.lo da).toNat)]) rw_43 F H rfl rfl rfl rfl rfl) (Sx.wanted_none rfl _) rfl (by decide) (fun A F => ?_)
      refine Sx.sv F (Sx.d_load (i := 0) (xs := [.int .u64 ((Wd.hi db).toNat), .int .u64 ((Wd.lo db).toNat)]) rw_43 F H rfl rfl rfl rfl rfl) (Sx.wanted_none rfl _) rfl (by decide) (fun A F => ?_)
      refine Sx.sv F (Sx.d_bin (v := .bool true) F rfl rfl rfl (Sx.i_eqU (decide_eq_true (Wd.ext (BitVec.eq_of_toNat_eq hl) (BitVec.eq_of_toNat_eq hm))))) (Sx.wanted_none rfl _) rfl (by decide) (fun A F => ?_)
      refine Sx.nil ?_
      refine hK13 _ _ ?_
      refine Sx.condT F rfl ?_
      refine Sx.seq (fun K14 hK14 => ?_)
      refine Sx.plain ?_
      refine Sx.sv F (Sx.d_move F (Or.inr rfl) rfl) (Sx.wanted_none rfl _) rfl (by decide) (fun A F => ?_)
      refine Sx.nil ?_
      refine hK14 _ _ ?_
      refine wp_ret ?_
      try dsimp only [Exit.then, Exit.inBlock, Exit.jump]
      refine Sx.ret1 F Try.results26 (Sx.res_tmp (v := .int .i64 0) F rfl) ⟨?_, H.below⟩
      rw [← Wd.cmp_lo da db hl, Wd.cmpN_eq hm]
    · skip
      refine Sx.seq (fun K15 hK15 => ?_)
      refine Sx.seq (fun K16 hK16 => ?_)
      refine Sx.plain ?_
      refine Sx.sv F (Sx.d_load (i := 1) (xs := [.int .u64 ((Wd.hi da).toNat), .int .u64 ((Wd.lo da).toNat)]) rw_43 F H rfl rfl rfl rfl rfl) (Sx.wanted_none rfl _) rfl (by decide) (fun A F => ?_)
      refine Sx.sv F (Sx.d_load (i := 0) (xs := [.int .u64 ((Wd.hi db).toNat), .int .u64 ((Wd.lo db).toNat)]) rw_43 F H rfl rfl rfl rfl rfl) (Sx.wanted_none rfl _) rfl (by decide) (fun A F => ?_)
      refine Sx.sv F (Sx.d_bin (v := .bool false) F rfl rfl rfl (Sx.i_eqU (decide_eq_false (fun e => by rw [e] at hm; exact Nat.lt_irrefl _ hm)))) (Sx.wanted_none rfl _) rfl (by decide) (fun A F => ?_)
      refine Sx.nil ?_
      refine hK16 _ _ ?_
      refine Sx.condF F rfl ?_
      refine wp_skip ?_
      refine hK15 _ _ ?_
      refine Sx.seq (fun K17 hK17 => ?_)
      refine Sx.seq (fun K18 hK18 => ?_)
      refine Sx.plain ?_
      refine Sx.sv F (Sx.d_faddr (v := .pointer (some ⟨g1, 0, none⟩)) F rfl rfl (fa_43_0 _ 0 _)) (Sx.wanted_none rfl _) rfl (by decide) (fun A F => ?_)
      refine Sx.sv F (Sx.d_load1 (i := 1) (v := .int .u64 ((Wd.hi da).toNat)) one_22 F H rfl rfl rfl rfl) (Sx.wanted_none rfl _) rfl (by decide) (fun A F => ?_)
      refine Sx.sv F (Sx.d_faddr (v := .pointer (some ⟨g2, 0, none⟩)) F rfl rfl (fa_43_0 _ 0 _)) (Sx.wanted_none rfl _) rfl (by decide) (fun A F => ?_)
      refine Sx.sv F (Sx.d_load1 (i := 0) (v := .int .u64 ((Wd.hi db).toNat)) one_22 F H rfl rfl rfl rfl) (Sx.wanted_none rfl _) rfl (by decide) (fun A F => ?_)
      refine Sx.sv F (Sx.d_bin (v := .bool false) F rfl rfl rfl (Sx.i_lt (decide_eq_false (by omega)))) (Sx.wanted_none rfl _) rfl (by decide) (fun A F => ?_)
      refine Sx.sv F (Sx.d_move F (Or.inl rfl) rfl) (Sx.wanted_none rfl _) rfl (by decide) (fun A F => ?_)
      refine Sx.sv F (Sx.d_faddr (v := .pointer (some ⟨g1, 0, none⟩)) F rfl rfl (fa_43_0 _ 0 _)) (Sx.wanted_on rfl (Sx.guard_known (d := 13) (b := false) F rfl rfl) rfl) rfl (by decide) (fun A F => ?_)
      refine Sx.sv F (Sx.d_load1 (i := 1) (v := .int .u64 ((Wd.hi da).toNat)) one_22 F H rfl rfl rfl rfl) (Sx.wanted_on rfl (Sx.guard_known (d := 13) (b := false) F rfl rfl) rfl) rfl (by decide) (fun A F => ?_)
      refine Sx.sv F (Sx.d_faddr (v := .pointer (some ⟨g2, 0, none⟩)) F rfl rfl (fa_43_0 _ 0 _)) (Sx.wanted_on rfl (Sx.guard_known (d := 13) (b := false) F rfl rfl) rfl) rfl (by decide) (fun A F => ?_)
      refine Sx.sv F (Sx.d_load1 (i := 0) (v := .int .u64 ((Wd.hi db).toNat)) one_22 F H rfl rfl rfl rfl) (Sx.wanted_on rfl (Sx.guard_known (d := 13) (b := false) F rfl rfl) rfl) rfl (by decide) (fun A F => ?_)
      refine Sx.sv F (Sx.d_bin (v := .bool true) F rfl rfl rfl (Sx.i_eq (beq_iff_eq.2 (by omega)))) (Sx.wanted_on rfl (Sx.guard_known (d := 13) (b := false) F rfl rfl) rfl) rfl (by decide) (fun A F => ?_)
      refine Sx.sv F (Sx.d_move F (Or.inl rfl) rfl) (Sx.wanted_on rfl (Sx.guard_known (d := 13) (b := false) F rfl rfl) rfl) rfl (by decide) (fun A F => ?_)
      refine Sx.sv F (Sx.d_faddr (v := .pointer (some ⟨g1, 1, none⟩)) F rfl rfl (fa_43_1 _ 0 _)) (Sx.wanted_on rfl (Sx.guard_known (d := 19) (b := true) F rfl rfl) rfl) rfl (by decide) (fun A F => ?_)
      refine Sx.sv F (Sx.d_load1 (i := 1) (v := .int .u64 ((Wd.lo da).toNat)) one_22 F H rfl rfl rfl rfl) (Sx.wanted_on rfl (Sx.guard_known (d := 19) (b := true) F rfl rfl) rfl) rfl (by decide) (fun A F => ?_)
      refine Sx.sv F (Sx.d_faddr (v := .pointer (some ⟨g2, 1, none⟩)) F rfl rfl (fa_43_1 _ 0 _)) (Sx.wanted_on rfl (Sx.guard_known (d := 19) (b := true) F rfl rfl) rfl) rfl (by decide) (fun A F => ?_)
      refine Sx.sv F (Sx.d_load1 (i := 0) (v := .int .u64 ((Wd.lo db).toNat)) one_22 F H rfl rfl rfl rfl) (Sx.wanted_on rfl (Sx.guard_known (d := 19) (b := true) F rfl rfl) rfl) rfl (by decide) (fun A F => ?_)
      refine Sx.sv F (Sx.d_bin (v := .bool false) F rfl rfl rfl (Sx.i_lt (decide_eq_false (by omega)))) (Sx.wanted_on rfl (Sx.guard_known (d := 19) (b := true) F rfl rfl) rfl) rfl (by decide) (fun A F => ?_)
      refine Sx.sv F (Sx.d_pickT (v := .bool false) F rfl rfl rfl) (Sx.wanted_on rfl (Sx.guard_known (d := 13) (b := false) F rfl rfl) rfl) rfl (by decide) (fun A F => ?_)
      refine Sx.sv F (Sx.d_pickF (v := .bool false) F rfl rfl rfl) (Sx.wanted_none rfl _) rfl (by decide) (fun A F => ?_)
      refine Sx.nil ?_
      refine hK18 _ _ ?_
      refine Sx.condF F rfl ?_
      refine wp_skip ?_
      refine hK17 _ _ ?_
      refine Sx.seq (fun K19 hK19 => ?_)
      refine Sx.plain ?_
      refine Sx.sv F (Sx.d_move F (Or.inr rfl) rfl) (Sx.wanted_none rfl _) rfl (by decide) (fun A F => ?_)
      refine Sx.nil ?_
      refine hK19 _ _ ?_
      refine wp_ret ?_
      try dsimp only [Exit.then, Exit.inBlock, Exit.jump]
      refine Sx.ret1 F Try.results26 (Sx.res_tmp (v := .int .i64 1) F rfl) ⟨?_, H.below⟩
      rw [← Wd.cmp_lo da db hl, Wd.cmpN_gt hm]
  · skip
    refine Sx.seq (fun K20 hK20 => ?_)
    refine Sx.seq (fun K21 hK21 => ?_)
    refine Sx.plain ?_
    refine Sx.sv F (Sx.d_load (i := 1) (xs := [.int .u64 ((Wd.hi da).toNat), .int .u64 ((Wd.lo da).toNat)]) rw_43 F H rfl rfl rfl rfl rfl) (Sx.wanted_none rfl _) rfl (by decide) (fun A F => ?_)
    refine Sx.sv F (Sx.d_load (i := 0) (xs := [.int .u64 ((Wd.hi db).toNat), .int .u64 ((Wd.lo db).toNat)]) rw_43 F H rfl rfl rfl rfl rfl) (Sx.wanted_none rfl _) rfl (by decide) (fun A F => ?_)
    refine Sx.sv F (Sx.d_bin (v := .bool false) F rfl rfl rfl (Sx.i_eqU (decide_eq_false (fun e => by rw [e] at hl; exact Nat.lt_irrefl _ hl)))) (Sx.wanted_none rfl _) rfl (by decide) (fun A F => ?_)
    refine Sx.nil ?_
    refine hK21 _ _ ?_
    refine Sx.condF F rfl ?_
    refine wp_skip ?_
    refine hK20 _ _ ?_
    refine Sx.seq (fun K22 hK22 => ?_)
    refine Sx.seq (fun K23 hK23 => ?_)
    refine Sx.plain ?_
    refine Sx.sv F (Sx.d_faddr (v := .pointer (some ⟨g1, 0, none⟩)) F rfl rfl (fa_43_0 _ 0 _)) (Sx.wanted_none rfl _) rfl (by decide) (fun A F => ?_)
    refine Sx.sv F (Sx.d_load1 (i := 1) (v := .int .u64 ((Wd.hi da).toNat)) one_22 F H rfl rfl rfl rfl) (Sx.wanted_none rfl _) rfl (by decide) (fun A F => ?_)
    refine Sx.sv F (Sx.d_faddr (v := .pointer (some ⟨g2, 0, none⟩)) F rfl rfl (fa_43_0 _ 0 _)) (Sx.wanted_none rfl _) rfl (by decide) (fun A F => ?_)
    refine Sx.sv F (Sx.d_load1 (i := 0) (v := .int .u64 ((Wd.hi db).toNat)) one_22 F H rfl rfl rfl rfl) (Sx.wanted_none rfl _) rfl (by decide) (fun A F => ?_)
    refine Sx.sv F (Sx.d_bin (v := .bool false) F rfl rfl rfl (Sx.i_lt (decide_eq_false (by omega)))) (Sx.wanted_none rfl _) rfl (by decide) (fun A F => ?_)
    refine Sx.sv F (Sx.d_move F (Or.inl rfl) rfl) (Sx.wanted_none rfl _) rfl (by decide) (fun A F => ?_)
    refine Sx.sv F (Sx.d_faddr (v := .pointer (some ⟨g1, 0, none⟩)) F rfl rfl (fa_43_0 _ 0 _)) (Sx.wanted_on rfl (Sx.guard_known (d := 13) (b := false) F rfl rfl) rfl) rfl (by decide) (fun A F => ?_)
    refine Sx.sv F (Sx.d_load1 (i := 1) (v := .int .u64 ((Wd.hi da).toNat)) one_22 F H rfl rfl rfl rfl) (Sx.wanted_on rfl (Sx.guard_known (d := 13) (b := false) F rfl rfl) rfl) rfl (by decide) (fun A F => ?_)
    refine Sx.sv F (Sx.d_faddr (v := .pointer (some ⟨g2, 0, none⟩)) F rfl rfl (fa_43_0 _ 0 _)) (Sx.wanted_on rfl (Sx.guard_known (d := 13) (b := false) F rfl rfl) rfl) rfl (by decide) (fun A F => ?_)
    refine Sx.sv F (Sx.d_load1 (i := 0) (v := .int .u64 ((Wd.hi db).toNat)) one_22 F H rfl rfl rfl rfl) (Sx.wanted_on rfl (Sx.guard_known (d := 13) (b := false) F rfl rfl) rfl) rfl (by decide) (fun A F => ?_)
    refine Sx.sv F (Sx.d_bin (v := .bool false) F rfl rfl rfl (Sx.i_eq (beq_false_of_ne (by omega)))) (Sx.wanted_on rfl (Sx.guard_known (d := 13) (b := false) F rfl rfl) rfl) rfl (by decide) (fun A F => ?_)
    refine Sx.sv F (Sx.d_move F (Or.inl rfl) rfl) (Sx.wanted_on rfl (Sx.guard_known (d := 13) (b := false) F rfl rfl) rfl) rfl (by decide) (fun A F => ?_)
    refine Sx.su F (Sx.wanted_off rfl (Sx.guard_known (d := 19) (b := false) F rfl rfl) rfl) rfl (by decide) (fun A F => ?_)
    refine Sx.su F (Sx.wanted_off rfl (Sx.guard_known (d := 19) (b := false) F rfl rfl) rfl) rfl (by decide) (fun A F => ?_)
    refine Sx.su F (Sx.wanted_off rfl (Sx.guard_known (d := 19) (b := false) F rfl rfl) rfl) rfl (by decide) (fun A F => ?_)
    refine Sx.su F (Sx.wanted_off rfl (Sx.guard_known (d := 19) (b := false) F rfl rfl) rfl) rfl (by decide) (fun A F => ?_)
    refine Sx.su F (Sx.wanted_off rfl (Sx.guard_known (d := 19) (b := false) F rfl rfl) rfl) rfl (by decide) (fun A F => ?_)
    refine Sx.sv F (Sx.d_pickF (v := .bool false) F rfl rfl rfl) (Sx.wanted_on rfl (Sx.guard_known (d := 13) (b := false) F rfl rfl) rfl) rfl (by decide) (fun A F => ?_)
    refine Sx.sv F (Sx.d_pickF (v := .bool false) F rfl rfl rfl) (Sx.wanted_none rfl _) rfl (by decide) (fun A F => ?_)
    refine Sx.nil ?_
    refine hK23 _ _ ?_
    refine Sx.condF F rfl ?_
    refine wp_skip ?_
    refine hK22 _ _ ?_
    refine Sx.seq (fun K24 hK24 => ?_)
    refine Sx.plain ?_
    refine Sx.sv F (Sx.d_move F (Or.inr rfl) rfl) (Sx.wanted_none rfl _) rfl (by decide) (fun A F => ?_)
    refine Sx.nil ?_
    refine hK24 _ _ ?_
    refine wp_ret ?_
    try dsimp only [Exit.then, Exit.inBlock, Exit.jump]
    refine Sx.ret1 F Try.results26 (Sx.res_tmp (v := .int .i64 1) F rfl) ⟨?_, H.below⟩
    rw [← Wd.cmp_hi da db (by omega), Wd.cmpN_gt hl]
set_option maxRecDepth 100000 in
theorem rright_lo (x : BitVec 128) (n : Int) (h : n < 0) (w0 : World) : Calls Try.prog 30 #[.agg #[.int .u64 ((Wd.hi x).toNat), .int .u64 ((Wd.lo x).toNat)], .int .i64 n] w0 fun e w' => e = .returned (.agg #[.int .u64 ((Wd.hi (x >>> 0)).toNat), .int .u64 ((Wd.lo (x >>> 0)).toNat)]) ∧ Below w0.heap.size w0 w' := by
  refine Sx.enter (args := [.agg #[.int .u64 ((Wd.hi x).toNat), .int .u64 ((Wd.lo x).toNat)], .int .i64 n]) Try.func30 rfl Try.ntmps30 (Nat.le_of_ble_eq_true rfl) (fun A F => ?_)
  have H := Sx.Own.start w0
  refine Sx.seq (fun K1 hK1 => ?_)
  refine Sx.plain ?_
  refine Sx.sb F (Sx.d_box F H rfl rfl [.int .u64 ((Wd.hi x).toNat), .int .u64 ((Wd.lo x).toNat)] rfl) (Sx.wanted_none rfl _) rfl (by decide) (fun g1 A w F H => ?_)
  refine Sx.sb F (Sx.d_alloc H rfl [.int .u64 ((Wd.hi 0#128).toNat), .int .u64 ((Wd.lo 0#128).toNat)] zero_43) (Sx.wanted_none rfl _) rfl (by decide) (fun g2 A w F H => ?_)
  refine Sx.nil ?_
  refine hK1 _ _ ?_
  refine Sx.seq (fun K2 hK2 => ?_)
  refine Sx.seq (fun K3 hK3 => ?_)
  refine Sx.plain ?_
  refine Sx.sv F (Sx.d_move F (Or.inl rfl) rfl) (Sx.wanted_none rfl _) rfl (by decide) (fun A F => ?_)
  refine Sx.sv F (Sx.d_bin (v := .bool true) F rfl rfl rfl (Sx.i_lt (decide_eq_true h))) (Sx.wanted_none rfl _) rfl (by decide) (fun A F => ?_)
  refine Sx.nil ?_
  refine hK3 _ _ ?_
  refine Sx.condT F rfl ?_
  refine Sx.plain ?_
  refine Sx.sv F (Sx.d_move F (Or.inr rfl) rfl) (Sx.wanted_none rfl _) rfl (by decide) (fun A F => ?_)
  refine Sx.nil ?_
  refine hK2 _ _ ?_
  refine Sx.seq (fun K4 hK4 => ?_)
  refine Sx.seq (fun K5 hK5 => ?_)
  refine Sx.plain ?_
  refine Sx.sv F (Sx.d_move F (Or.inl rfl) rfl) (Sx.wanted_none rfl _) rfl (by decide) (fun A F => ?_)
  refine Sx.sv F (Sx.d_bin (v := .bool false) F rfl rfl rfl (Sx.i_gt (by decide))) (Sx.wanted_none rfl _) rfl (by decide) (fun A F => ?_)
  refine Sx.nil ?_
  refine hK5 _ _ ?_
  refine Sx.condF F rfl ?_
  refine wp_skip ?_
  refine hK4 _ _ ?_
  refine Sx.seq (fun K6 hK6 => ?_)
  refine Sx.plain ?_
  refine Sx.sv F (Sx.d_load (i := 1) (xs := [.int .u64 ((Wd.hi x).toNat), .int .u64 ((Wd.lo x).toNat)]) rw_43 F H rfl rfl rfl rfl rfl) (Sx.wanted_none rfl _) rfl (by decide) (fun A F => ?_)
  refine Sx.sr (mk := fun v => v) F (Sx.d_callR (vs := [.agg #[.int .u64 ((Wd.hi x).toNat), .int .u64 ((Wd.lo x).toNat)]]) (mk := fun v => v) if_61 F H rfl rfl (rlist_c x _)) (Sx.wanted_none rfl _) rfl (by decide) (fun v1 A w F (H : Sx.Own w0 _ [(true, g2, [.int .u64 ((Wd.hi 0#128).toNat), .int .u64 ((Wd.lo 0#128).toNat)]), (true, g1, [.int .u64 ((Wd.hi x).toNat), .int .u64 ((Wd.lo x).toNat)])] [⟨true, v1, 3, 1, 128, (Bi.bis (BitVec.getLsbD x) 128)⟩]) => ?_)
  refine Sx.sv F (Sx.d_move F (Or.inl rfl) rfl) (Sx.wanted_none rfl _) rfl (by decide) (fun A F => ?_)
  obtain ⟨lg, lc, rfl, hc1, hc2⟩ := H.open (i := 0) rfl (by omega)
  refine Sx.sv F (Sx.d_sliceL (l := 0) el_77 F rfl rfl rfl rfl (by omega)) (Sx.wanted_none rfl _) rfl (by decide) (fun A F => ?_)
  refine Sx.sw F (Sx.d_call (vs := [.slice (if lc = 0 then some ⟨lg, 0, none⟩ else some ⟨lg, 0 + 0 * 1, none⟩) (128 - 0) (lc - 0)]) (v := .agg #[.int .u64 ((Wd.hi (Bi.of (fun i => x.getLsbD (0 + i)) (128 - 0))).toNat), .int .u64 ((Wd.lo (Bi.of (fun i => x.getLsbD (0 + i)) (128 - 0))).toNat)]) if_59 F H rfl rfl (rof_c (fun i => x.getLsbD (0 + i)) _ _ _ (Bi.Rd.drop (Bi.Rd.row (H.row 0 _ rfl rfl) (by omega)) 0 (by omega) hc1))) (Sx.wanted_none rfl _) rfl (by decide) (fun A w F H => ?_)
  refine Sx.ss F (Sx.d_store (i := 0) (xs := [.int .u64 ((Wd.hi (Bi.of (fun i => x.getLsbD (0 + i)) (128 - 0))).toNat), .int .u64 ((Wd.lo (Bi.of (fun i => x.getLsbD (0 + i)) (128 - 0))).toNat)]) (us := [.int .u64 ((Wd.hi (Bi.of (fun i => x.getLsbD (0 + i)) (128 - 0))).toNat), .int .u64 ((Wd.lo (Bi.of (fun i => x.getLsbD (0 + i)) (128 - 0))).toNat)]) sz_43 F H rfl rfl rfl rfl rfl rfl rfl (Nat.le_of_ble_eq_true rfl) rfl) (Sx.wanted_none rfl _) rfl (fun A w F (H : Sx.Own w0 _ [(true, g2, [.int .u64 ((Wd.hi (Bi.of (fun i => x.getLsbD (0 + i)) (128 - 0))).toNat), .int .u64 ((Wd.lo (Bi.of (fun i => x.getLsbD (0 + i)) (128 - 0))).toNat)]), (true, g1, [.int .u64 ((Wd.hi x).toNat), .int .u64 ((Wd.lo x).toNat)])] [⟨true, .slice (some ⟨lg, 0, none⟩) 128 lc, 3, 1, 128, (Bi.bis (BitVec.getLsbD x) 128)⟩]) => ?_)
  refine Sx.nil ?_
  refine hK6 _ _ ?_
  refine wp_ret ?_
  try dsimp only [Exit.then, Exit.inBlock, Exit.jump]
  refine Sx.ret1 F Try.results30 (Sx.res_row (i := 0) (xs := [.int .u64 ((Wd.hi (Bi.of (fun i => x.getLsbD (0 + i)) (128 - 0))).toNat), .int .u64 ((Wd.lo (Bi.of (fun i => x.getLsbD (0 + i)) (128 - 0))).toNat)]) rw_43 F H rfl rfl rfl rfl) ⟨?_, H.below⟩
  rw [← Bi.of_down x 0 (by decide)]
set_option maxRecDepth 100000 in
theorem rright_hi (x : BitVec 128) (n : Int) (h : 128 < n) (w0 : World) : Calls Try.prog 30 #[.agg #[.int .u64 ((Wd.hi x).toNat), .int .u64 ((Wd.lo x).toNat)], .int .i64 n] w0 fun e w' => e = .returned (.agg #[.int .u64 ((Wd.hi (x >>> 128)).toNat), .int .u64 ((Wd.lo (x >>> 128)).toNat)]) ∧ Below w0.heap.size w0 w' := by
  refine Sx.enter (args := [.agg #[.int .u64 ((Wd.hi x).toNat), .int .u64 ((Wd.lo x).toNat)], .int .i64 n]) Try.func30 rfl Try.ntmps30 (Nat.le_of_ble_eq_true rfl) (fun A F => ?_)
  have H := Sx.Own.start w0
  refine Sx.seq (fun K1 hK1 => ?_)
  refine Sx.plain ?_
  refine Sx.sb F (Sx.d_box F H rfl rfl [.int .u64 ((Wd.hi x).toNat), .int .u64 ((Wd.lo x).toNat)] rfl) (Sx.wanted_none rfl _) rfl (by decide) (fun g1 A w F H => ?_)
  refine Sx.sb F (Sx.d_alloc H rfl [.int .u64 ((Wd.hi 0#128).toNat), .int .u64 ((Wd.lo 0#128).toNat)] zero_43) (Sx.wanted_none rfl _) rfl (by decide) (fun g2 A w F H => ?_)
  refine Sx.nil ?_
  refine hK1 _ _ ?_
  refine Sx.seq (fun K2 hK2 => ?_)
  refine Sx.seq (fun K3 hK3 => ?_)
  refine Sx.plain ?_
  refine Sx.sv F (Sx.d_move F (Or.inl rfl) rfl) (Sx.wanted_none rfl _) rfl (by decide) (fun A F => ?_)
  refine Sx.sv F (Sx.d_bin (v := .bool false) F rfl rfl rfl (Sx.i_lt (decide_eq_false (by omega)))) (Sx.wanted_none rfl _) rfl (by decide) (fun A F => ?_)
  refine Sx.nil ?_
  refine hK3 _ _ ?_
  refine Sx.condF F rfl ?_
  refine wp_skip ?_
  refine hK2 _ _ ?_
  refine Sx.seq (fun K4 hK4 => ?_)
  refine Sx.seq (fun K5 hK5 => ?_)
  refine Sx.plain ?_
  refine Sx.sv F (Sx.d_move F (Or.inl rfl) rfl) (Sx.wanted_none rfl _) rfl (by decide) (fun A F => ?_)
  refine Sx.sv F (Sx.d_bin (v := .bool true) F rfl rfl rfl (Sx.i_gt (decide_eq_true h))) (Sx.wanted_none rfl _) rfl (by decide) (fun A F => ?_)
  refine Sx.nil ?_
  refine hK5 _ _ ?_
  refine Sx.condT F rfl ?_
  refine Sx.plain ?_
  refine Sx.sv F (Sx.d_move F (Or.inr rfl) rfl) (Sx.wanted_none rfl _) rfl (by decide) (fun A F => ?_)
  refine Sx.nil ?_
  refine hK4 _ _ ?_
  refine Sx.seq (fun K6 hK6 => ?_)
  refine Sx.plain ?_
  refine Sx.sv F (Sx.d_load (i := 1) (xs := [.int .u64 ((Wd.hi x).toNat), .int .u64 ((Wd.lo x).toNat)]) rw_43 F H rfl rfl rfl rfl rfl) (Sx.wanted_none rfl _) rfl (by decide) (fun A F => ?_)
  refine Sx.sr (mk := fun v => v) F (Sx.d_callR (vs := [.agg #[.int .u64 ((Wd.hi x).toNat), .int .u64 ((Wd.lo x).toNat)]]) (mk := fun v => v) if_61 F H rfl rfl (rlist_c x _)) (Sx.wanted_none rfl _) rfl (by decide) (fun v1 A w F (H : Sx.Own w0 _ [(true, g2, [.int .u64 ((Wd.hi 0#128).toNat), .int .u64 ((Wd.lo 0#128).toNat)]), (true, g1, [.int .u64 ((Wd.hi x).toNat), .int .u64 ((Wd.lo x).toNat)])] [⟨true, v1, 3, 1, 128, (Bi.bis (BitVec.getLsbD x) 128)⟩]) => ?_)
  refine Sx.sv F (Sx.d_move F (Or.inl rfl) rfl) (Sx.wanted_none rfl _) rfl (by decide) (fun A F => ?_)
  obtain ⟨lg, lc, rfl, hc1, hc2⟩ := H.open (i := 0) rfl (by omega)
  refine Sx.sv F (Sx.d_sliceL (l := 128) el_77 F rfl rfl rfl rfl (by omega)) (Sx.wanted_none rfl _) rfl (by decide) (fun A F => ?_)
  refine Sx.sw F (Sx.d_call (vs := [.slice (if lc = 128 then some ⟨lg, 0, none⟩ else some ⟨lg, 0 + 128 * 1, none⟩) (128 - 128) (lc - 128)]) (v := .agg #[.int .u64 ((Wd.hi (Bi.of (fun i => x.getLsbD (128 + i)) (128 - 128))).toNat), .int .u64 ((Wd.lo (Bi.of (fun i => x.getLsbD (128 + i)) (128 - 128))).toNat)]) if_59 F H rfl rfl (rof_c (fun i => x.getLsbD (128 + i)) _ _ _ (Bi.Rd.drop (Bi.Rd.row (H.row 0 _ rfl rfl) (by omega)) 128 (by omega) hc1))) (Sx.wanted_none rfl _) rfl (by decide) (fun A w F H => ?_)
  refine Sx.ss F (Sx.d_store (i := 0) (xs := [.int .u64 ((Wd.hi (Bi.of (fun i => x.getLsbD (128 + i)) (128 - 128))).toNat), .int .u64 ((Wd.lo (Bi.of (fun i => x.getLsbD (128 + i)) (128 - 128))).toNat)]) (us := [.int .u64 ((Wd.hi (Bi.of (fun i => x.getLsbD (128 + i)) (128 - 128))).toNat), .int .u64 ((Wd.lo (Bi.of (fun i => x.getLsbD (128 + i)) (128 - 128))).toNat)]) sz_43 F H rfl rfl rfl rfl rfl rfl rfl (Nat.le_of_ble_eq_true rfl) rfl) (Sx.wanted_none rfl _) rfl (fun A w F (H : Sx.Own w0 _ [(true, g2, [.int .u64 ((Wd.hi (Bi.of (fun i => x.getLsbD (128 + i)) (128 - 128))).toNat), .int .u64 ((Wd.lo (Bi.of (fun i => x.getLsbD (128 + i)) (128 - 128))).toNat)]), (true, g1, [.int .u64 ((Wd.hi x).toNat), .int .u64 ((Wd.lo x).toNat)])] [⟨true, .slice (some ⟨lg, 0, none⟩) 128 lc, 3, 1, 128, (Bi.bis (BitVec.getLsbD x) 128)⟩]) => ?_)
  refine Sx.nil ?_
  refine hK6 _ _ ?_
  refine wp_ret ?_
  try dsimp only [Exit.then, Exit.inBlock, Exit.jump]
  refine Sx.ret1 F Try.results30 (Sx.res_row (i := 0) (xs := [.int .u64 ((Wd.hi (Bi.of (fun i => x.getLsbD (128 + i)) (128 - 128))).toNat), .int .u64 ((Wd.lo (Bi.of (fun i => x.getLsbD (128 + i)) (128 - 128))).toNat)]) rw_43 F H rfl rfl rfl rfl) ⟨?_, H.below⟩
  rw [← Bi.of_down x 128 (by decide)]
set_option maxRecDepth 100000 in
theorem rright_mid (x : BitVec 128) (k : Nat) (h : k ≤ 128) (w0 : World) : Calls Try.prog 30 #[.agg #[.int .u64 ((Wd.hi x).toNat), .int .u64 ((Wd.lo x).toNat)], .int .i64 k] w0 fun e w' => e = .returned (.agg #[.int .u64 ((Wd.hi (x >>> k)).toNat), .int .u64 ((Wd.lo (x >>> k)).toNat)]) ∧ Below w0.heap.size w0 w' := by
  refine Sx.enter (args := [.agg #[.int .u64 ((Wd.hi x).toNat), .int .u64 ((Wd.lo x).toNat)], .int .i64 k]) Try.func30 rfl Try.ntmps30 (Nat.le_of_ble_eq_true rfl) (fun A F => ?_)
  have H := Sx.Own.start w0
  refine Sx.seq (fun K1 hK1 => ?_)
  refine Sx.plain ?_
  refine Sx.sb F (Sx.d_box F H rfl rfl [.int .u64 ((Wd.hi x).toNat), .int .u64 ((Wd.lo x).toNat)] rfl) (Sx.wanted_none rfl _) rfl (by decide) (fun g1 A w F H => ?_)
  refine Sx.sb F (Sx.d_alloc H rfl [.int .u64 ((Wd.hi 0#128).toNat), .int .u64 ((Wd.lo 0#128).toNat)] zero_43) (Sx.wanted_none rfl _) rfl (by decide) (fun g2 A w F H => ?_)
  refine Sx.nil ?_
  refine hK1 _ _ ?_
  refine Sx.seq (fun K2 hK2 => ?_)
  refine Sx.seq (fun K3 hK3 => ?_)
  refine Sx.plain ?_
  refine Sx.sv F (Sx.d_move F (Or.inl rfl) rfl) (Sx.wanted_none rfl _) rfl (by decide) (fun A F => ?_)
  refine Sx.sv F (Sx.d_bin (v := .bool false) F rfl rfl rfl (Sx.i_lt (decide_eq_false (by omega)))) (Sx.wanted_none rfl _) rfl (by decide) (fun A F => ?_)
  refine Sx.nil ?_
  refine hK3 _ _ ?_
  refine Sx.condF F rfl ?_
  refine wp_skip ?_
  refine hK2 _ _ ?_
  refine Sx.seq (fun K4 hK4 => ?_)
  refine Sx.seq (fun K5 hK5 => ?_)
  refine Sx.plain ?_
  refine Sx.sv F (Sx.d_move F (Or.inl rfl) rfl) (Sx.wanted_none rfl _) rfl (by decide) (fun A F => ?_)
  refine Sx.sv F (Sx.d_bin (v := .bool false) F rfl rfl rfl (Sx.i_gt (decide_eq_false (by omega)))) (Sx.wanted_none rfl _) rfl (by decide) (fun A F => ?_)
  refine Sx.nil ?_
  refine hK5 _ _ ?_
  refine Sx.condF F rfl ?_
  refine wp_skip ?_
  refine hK4 _ _ ?_
  refine Sx.seq (fun K6 hK6 => ?_)
  refine Sx.plain ?_
  refine Sx.sv F (Sx.d_load (i := 1) (xs := [.int .u64 ((Wd.hi x).toNat), .int .u64 ((Wd.lo x).toNat)]) rw_43 F H rfl rfl rfl rfl rfl) (Sx.wanted_none rfl _) rfl (by decide) (fun A F => ?_)
  refine Sx.sr (mk := fun v => v) F (Sx.d_callR (vs := [.agg #[.int .u64 ((Wd.hi x).toNat), .int .u64 ((Wd.lo x).toNat)]]) (mk := fun v => v) if_61 F H rfl rfl (rlist_c x _)) (Sx.wanted_none rfl _) rfl (by decide) (fun v1 A w F (H : Sx.Own w0 _ [(true, g2, [.int .u64 ((Wd.hi 0#128).toNat), .int .u64 ((Wd.lo 0#128).toNat)]), (true, g1, [.int .u64 ((Wd.hi x).toNat), .int .u64 ((Wd.lo x).toNat)])] [⟨true, v1, 3, 1, 128, (Bi.bis (BitVec.getLsbD x) 128)⟩]) => ?_)
  refine Sx.sv F (Sx.d_move F (Or.inl rfl) rfl) (Sx.wanted_none rfl _) rfl (by decide) (fun A F => ?_)
  obtain ⟨lg, lc, rfl, hc1, hc2⟩ := H.open (i := 0) rfl (by omega)
  refine Sx.sv F (Sx.d_sliceL (l := k) el_77 F rfl rfl rfl rfl (by omega)) (Sx.wanted_none rfl _) rfl (by decide) (fun A F => ?_)
  refine Sx.sw F (Sx.d_call (vs := [.slice (if lc = k then some ⟨lg, 0, none⟩ else some ⟨lg, 0 + k * 1, none⟩) (128 - k) (lc - k)]) (v := .agg #[.int .u64 ((Wd.hi (Bi.of (fun i => x.getLsbD (k + i)) (128 - k))).toNat), .int .u64 ((Wd.lo (Bi.of (fun i => x.getLsbD (k + i)) (128 - k))).toNat)]) if_59 F H rfl rfl (rof_c (fun i => x.getLsbD (k + i)) _ _ _ (Bi.Rd.drop (Bi.Rd.row (H.row 0 _ rfl rfl) (by omega)) k (by omega) hc1))) (Sx.wanted_none rfl _) rfl (by decide) (fun A w F H => ?_)
  refine Sx.ss F (Sx.d_store (i := 0) (xs := [.int .u64 ((Wd.hi (Bi.of (fun i => x.getLsbD (k + i)) (128 - k))).toNat), .int .u64 ((Wd.lo (Bi.of (fun i => x.getLsbD (k + i)) (128 - k))).toNat)]) (us := [.int .u64 ((Wd.hi (Bi.of (fun i => x.getLsbD (k + i)) (128 - k))).toNat), .int .u64 ((Wd.lo (Bi.of (fun i => x.getLsbD (k + i)) (128 - k))).toNat)]) sz_43 F H rfl rfl rfl rfl rfl rfl rfl (Nat.le_of_ble_eq_true rfl) rfl) (Sx.wanted_none rfl _) rfl (fun A w F (H : Sx.Own w0 _ [(true, g2, [.int .u64 ((Wd.hi (Bi.of (fun i => x.getLsbD (k + i)) (128 - k))).toNat), .int .u64 ((Wd.lo (Bi.of (fun i => x.getLsbD (k + i)) (128 - k))).toNat)]), (true, g1, [.int .u64 ((Wd.hi x).toNat), .int .u64 ((Wd.lo x).toNat)])] [⟨true, .slice (some ⟨lg, 0, none⟩) 128 lc, 3, 1, 128, (Bi.bis (BitVec.getLsbD x) 128)⟩]) => ?_)
  refine Sx.nil ?_
  refine hK6 _ _ ?_
  refine wp_ret ?_
  try dsimp only [Exit.then, Exit.inBlock, Exit.jump]
  refine Sx.ret1 F Try.results30 (Sx.res_row (i := 0) (xs := [.int .u64 ((Wd.hi (Bi.of (fun i => x.getLsbD (k + i)) (128 - k))).toNat), .int .u64 ((Wd.lo (Bi.of (fun i => x.getLsbD (k + i)) (128 - k))).toNat)]) rw_43 F H rfl rfl rfl rfl) ⟨?_, H.below⟩
  rw [← Bi.of_down x k h]
theorem rright_c (x : BitVec 128) (n : Int) (w : World) : Calls Try.prog 30 #[.agg #[.int .u64 ((Wd.hi x).toNat), .int .u64 ((Wd.lo x).toNat)], .int .i64 n] w fun e w' => e = .returned (.agg #[.int .u64 ((Wd.hi (x >>> n.toNat)).toNat), .int .u64 ((Wd.lo (x >>> n.toNat)).toNat)]) ∧ Below w.heap.size w w' := by
  by_cases h0 : n < 0
  · refine Calls.val (rright_lo x n h0 w) rfl ?_
    rw [show n.toNat = 0 from by omega]
  · by_cases h1 : 128 < n
    · refine Calls.val (rright_hi x n h1 w) rfl ?_
      have e : ∀ k : Nat, 128 ≤ k → x >>> k = 0#128 := fun k hk => by
        apply BitVec.eq_of_getLsbD_eq
        intro i _
        rw [BitVec.getLsbD_ushiftRight, BitVec.getLsbD_of_ge _ _ (by omega)]; simp
      rw [e 128 (Nat.le_refl _), e n.toNat (by omega)]
    · obtain ⟨k, rfl⟩ := Int.eq_ofNat_of_zero_le (show 0 ≤ n from by omega)
      exact rright_mid x k (by omega) w
set_option maxHeartbeats 4000000 in
set_option maxRecDepth 100000 in
theorem rput_c (x : BitVec 128) (w0 : World) : Calls Try.prog 34 #[.agg #[.int .u64 ((Wd.hi x).toNat), .int .u64 ((Wd.lo x).toNat)]] w0 fun e w' => ∃ v, e = .returned v ∧ w'.ownsRow w0.heap.size 5 1 v 16 (By.bys (By.put x) 16) ∧ Below w0.heap.size w0 w' := by
  refine Sx.enter (args := [.agg #[.int .u64 ((Wd.hi x).toNat), .int .u64 ((Wd.lo x).toNat)]]) Try.func34 rfl Try.ntmps34 (Nat.le_of_ble_eq_true rfl) (fun A F => ?_)
  have H := Sx.Own.start w0
  refine Sx.seq (fun K1 hK1 => ?_)
  refine Sx.plain ?_
  refine Sx.sb F (Sx.d_box F H rfl rfl [.int .u64 ((Wd.hi x).toNat), .int .u64 ((Wd.lo x).toNat)] rfl) (Sx.wanted_none rfl _) rfl (by decide) (fun g1 A w F H => ?_)
  refine Sx.sv F (Sx.d_move F (Or.inr rfl) rfl) (Sx.wanted_none rfl _) rfl (by decide) (fun A F => ?_)
  refine Sx.nil ?_
  refine hK1 _ _ ?_
  refine Sx.seq (fun K2 hK2 => ?_)
  refine Sx.plain ?_
  refine Sx.sr (mk := fun v => v) F (Sx.d_litR (qs := #[]) (cs := #[]) (E := 5) (z := 1) F H rfl rfl (fun _ => by kernel_rfl) rfl (by decide)) (Sx.wanted_none rfl _) rfl (by decide) (fun v1 A w F (H : Sx.Own w0 _ [(true, g1, [.int .u64 ((Wd.hi x).toNat), .int .u64 ((Wd.lo x).toNat)])] [⟨true, v1, 5, 1, 0, []⟩]) => ?_)
  refine Sx.sv F (Sx.d_move F (Or.inr rfl) rfl) (Sx.wanted_none rfl _) rfl (by decide) (fun A F => ?_)
  refine Sx.nil ?_
  refine hK2 _ _ ?_
  refine Sx.seq (fun K3 hK3 => ?_)
  refine Sx.plain ?_
  refine Sx.sv F (Sx.d_load (i := 0) (xs := [.int .u64 ((Wd.hi x).toNat), .int .u64 ((Wd.lo x).toNat)]) rw_43 F H rfl rfl rfl rfl rfl) (Sx.wanted_none rfl _) rfl (by decide) (fun A F => ?_)
  refine Sx.sr (mk := fun v => v) F (Sx.d_callR (vs := [.agg #[.int .u64 ((Wd.hi x).toNat), .int .u64 ((Wd.lo x).toNat)]]) (mk := fun v => v) if_61 F H rfl rfl (rlist_c x _)) (Sx.wanted_none rfl _) rfl (by decide) (fun v2 A w F (H : Sx.Own w0 _ [(true, g1, [.int .u64 ((Wd.hi x).toNat), .int .u64 ((Wd.lo x).toNat)])] [⟨true, v2, 3, 1, 128, (Bi.bis (BitVec.getLsbD x) 128)⟩, ⟨true, v1, 5, 1, 0, []⟩]) => ?_)
  refine Sx.sv F (Sx.d_move F (Or.inr rfl) rfl) (Sx.wanted_none rfl _) rfl (by decide) (fun A F => ?_)
  refine Sx.nil ?_
  refine hK3 _ _ ?_
  refine Sx.seq (fun K4 hK4 => ?_)
  refine Sx.seq (fun K5 hK5 => ?_)
  refine Sx.plain ?_
  refine Sx.sv F (Sx.d_move F (Or.inr rfl) rfl) (Sx.wanted_none rfl _) rfl (by decide) (fun A F => ?_)
  refine Sx.nil ?_
  refine hK5 _ _ ?_
  refine wp_block ?_
  obtain ⟨lg, lc, rfl, hc1, hc2⟩ := H.open (i := 0) rfl (by omega)
  refine Sx.loop (fun q A w => ∃ (i : Nat) (v : Value), q = 16 - i ∧ i ≤ 16 ∧ Sx.Fr 35 A [(1, .pointer (some ⟨g1, 0, none⟩)), (4, .slice (some ⟨lg, 0, none⟩) 128 lc), (3, v), (5, .int .i64 i)] ∧ Sx.Own w0 w [(true, g1, [.int .u64 ((Wd.hi x).toNat), .int .u64 ((Wd.lo x).toNat)])] [⟨true, v, 5, 1, i, (By.bys (By.put x) i)⟩, ⟨true, .slice (some ⟨lg, 0, none⟩) 128 lc, 3, 1, 128, (Bi.bis (BitVec.getLsbD x) 128)⟩]) 16 ⟨0, v1, rfl, Nat.zero_le _, F.to ⟨rfl, rfl, rfl, rfl, trivial⟩, H.to' [0] [1, 0] (by decide) (by decide) rfl rfl⟩ ?_
  rintro q A w ⟨i, v, rfl, hi, F, H⟩
  by_cases hlt : i < 16
  · skip
    refine Sx.seq (fun K6 hK6 => ?_)
    refine Sx.seq (fun K7 hK7 => ?_)
    refine Sx.plain ?_
    refine Sx.sv F (Sx.d_move F (Or.inl rfl) rfl) (Sx.wanted_none rfl _) rfl (by decide) (fun A F => ?_)
    refine Sx.sv F (Sx.d_bin (v := .bool true) F rfl rfl rfl (Sx.i_lt (decide_eq_true (by omega)))) (Sx.wanted_none rfl _) rfl (by decide) (fun A F => ?_)
    refine Sx.nil ?_
    refine hK7 _ _ ?_
    refine Sx.condT F rfl ?_
    refine wp_skip ?_
    refine hK6 _ _ ?_
    refine Sx.seq (fun K8 hK8 => ?_)
    refine wp_block ?_
    refine Sx.seq (fun K9 hK9 => ?_)
    refine Sx.plain ?_
    refine Sx.sv F (Sx.d_move F (Or.inr rfl) rfl) (Sx.wanted_none rfl _) rfl (by decide) (fun A F => ?_)
    refine Sx.nil ?_
    refine hK9 _ _ ?_
    refine Sx.seq (fun K10 hK10 => ?_)
    refine Sx.seq (fun K11 hK11 => ?_)
    refine Sx.plain ?_
    refine Sx.sv F (Sx.d_move F (Or.inr rfl) rfl) (Sx.wanted_none rfl _) rfl (by decide) (fun A F => ?_)
    refine Sx.nil ?_
    refine hK11 _ _ ?_
    refine wp_block ?_
    have F := Sx.Fr.to F (kv' := [(1, .pointer (some ⟨g1, 0, none⟩)), (3, v), (4, .slice (some ⟨lg, 0, none⟩) 128 lc), (5, .int .i64 i), (6, .int .i64 (By.part x i 8)), (7, .int .i64 (((8 : Nat) : Int) - 1))]) ⟨rfl, rfl, rfl, rfl, by rw [By.part_top]; rfl, rfl, trivial⟩
    refine Sx.loop (fun t A w => t ≤ 8 ∧ Sx.Fr 35 A [(1, .pointer (some ⟨g1, 0, none⟩)), (3, v), (4, .slice (some ⟨lg, 0, none⟩) 128 lc), (5, .int .i64 i), (6, .int .i64 (By.part x i t)), (7, .int .i64 ((t : Int) - 1))] ∧ Sx.Own w0 w [(true, g1, [.int .u64 ((Wd.hi x).toNat), .int .u64 ((Wd.lo x).toNat)])] [⟨true, v, 5, 1, i, (By.bys (By.put x) i)⟩, ⟨true, .slice (some ⟨lg, 0, none⟩) 128 lc, 3, 1, 128, (Bi.bis (BitVec.getLsbD x) 128)⟩]) 8 ⟨Nat.le_refl _, F, H⟩ ?_
    rintro k A w ⟨hk, F, H⟩
    rcases k with _ | t
    · skip
      refine Sx.seq (fun K12 hK12 => ?_)
      refine Sx.seq (fun K13 hK13 => ?_)
      refine Sx.plain ?_
      refine Sx.sv F (Sx.d_move F (Or.inl rfl) rfl) (Sx.wanted_none rfl _) rfl (by decide) (fun A F => ?_)
      refine Sx.sv F (Sx.d_bin (v := .bool false) F rfl rfl rfl (Sx.i_ge (by decide))) (Sx.wanted_none rfl _) rfl (by decide) (fun A F => ?_)
      refine Sx.nil ?_
      refine hK13 _ _ ?_
      refine Sx.condF F rfl ?_
      refine wp_exit ?_
      try dsimp only [Exit.then, Exit.jump]
      refine Sx.exit_here ?_
      refine hK10 _ _ ?_
      refine Sx.plain ?_
      refine Sx.sv F (Sx.d_move F (Or.inl rfl) rfl) (Sx.wanted_none rfl _) rfl (by decide) (fun A F => ?_)
      refine Sx.sv F (Sx.d_move F (Or.inl rfl) rfl) (Sx.wanted_none rfl _) rfl (by decide) (fun A F => ?_)
      refine Sx.sv F (Sx.d_conv (v := .int .u8 (By.part x i 0)) F rfl rfl (Sx.c_i64_u8 _ (By.part_lt x i 0))) (Sx.wanted_none rfl _) rfl (by decide) (fun A F => ?_)
      refine Sx.sg (mk := fun g => .slice (some ⟨g, 0, none⟩) 1 1) F (Sx.d_lit (qs := #[(0, .int .u8 (By.part x i 0))]) (cs := #[.int .u8 (By.part x i 0)]) (E := 5) F H rfl rfl (fun _ => by kernel_rfl)) (Sx.wanted_none rfl _) rfl (by decide) (fun g2 A w F (H : Sx.Own w0 _ [(true, g2, [.int .u8 (By.part x i 0)]), (true, g1, [.int .u64 ((Wd.hi x).toNat), .int .u64 ((Wd.lo x).toNat)])] [⟨true, v, 5, 1, i, (By.bys (By.put x) i)⟩, ⟨true, .slice (some ⟨lg, 0, none⟩) 128 lc, 3, 1, 128, (Bi.bis (BitVec.getLsbD x) 128)⟩]) => ?_)
      refine Sx.sr (mk := fun v => v) F (Sx.d_append (i := 0) (j := 0) el_39 F H rfl rfl rfl rfl rfl rfl rfl rfl (by omega) (by decide)) (Sx.wanted_none rfl _) rfl (by decide) (fun v3 A w F (H : Sx.Own w0 _ [(true, g2, [.int .u8 (By.part x i 0)]), (true, g1, [.int .u64 ((Wd.hi x).toNat), .int .u64 ((Wd.lo x).toNat)])] [⟨true, v3, 5, 1, (i + 1), (By.bys (By.put x) i) ++ [.int .u8 (By.part x i 0)]⟩, ⟨true, .slice (some ⟨lg, 0, none⟩) 128 lc, 3, 1, 128, (Bi.bis (BitVec.getLsbD x) 128)⟩]) => ?_)
      refine Sx.sv F (Sx.d_move F (Or.inr rfl) rfl) (Sx.wanted_none rfl _) rfl (by decide) (fun A F => ?_)
      refine Sx.nil ?_
      refine hK8 _ _ ?_
      refine Sx.plain ?_
      refine Sx.sv F (Sx.d_move F (Or.inl rfl) rfl) (Sx.wanted_none rfl _) rfl (by decide) (fun A F => ?_)
      refine Sx.sv F (Sx.d_bin (v := .int .i64 (i + 1 : Nat)) F rfl rfl rfl (Sx.i_addN rfl (Sx.in_i64 _ (by omega)))) (Sx.wanted_none rfl _) rfl (by decide) (fun A F => ?_)
      refine Sx.sv F (Sx.d_move F (Or.inr rfl) rfl) (Sx.wanted_none rfl _) rfl (by decide) (fun A F => ?_)
      refine Sx.nil ?_
      try dsimp only [Exit.then]
      exact ⟨16 - (i + 1), by omega, i + 1, v3, rfl, by omega, F.to ⟨rfl, rfl, rfl, rfl, trivial⟩, by rw [By.snoc, ← By.part_zero]; exact H.to' [1] [0, 1] (by decide) (by decide) rfl rfl⟩
    · have hpt := By.part_lt x i t
      have hps := By.part_step x i t (by omega)
      refine Sx.seq (fun K14 hK14 => ?_)
      refine Sx.seq (fun K15 hK15 => ?_)
      refine Sx.plain ?_
      refine Sx.sv F (Sx.d_move F (Or.inl rfl) rfl) (Sx.wanted_none rfl _) rfl (by decide) (fun A F => ?_)
      refine Sx.sv F (Sx.d_bin (v := .bool true) F rfl rfl rfl (Sx.i_ge (decide_eq_true (by omega)))) (Sx.wanted_none rfl _) rfl (by decide) (fun A F => ?_)
      refine Sx.nil ?_
      refine hK15 _ _ ?_
      refine Sx.condT F rfl ?_
      refine wp_skip ?_
      refine hK14 _ _ ?_
      refine Sx.seq (fun K16 hK16 => ?_)
      refine wp_block ?_
      refine Sx.plain ?_
      refine Sx.sv F (Sx.d_move F (Or.inl rfl) rfl) (Sx.wanted_none rfl _) rfl (by decide) (fun A F => ?_)
      refine Sx.sv F (Sx.d_bin (v := .int .i64 (2 * By.part x i (t + 1) : Nat)) F rfl rfl rfl (Sx.i_mulN rfl (Sx.in_i64 _ (by omega)))) (Sx.wanted_none rfl _) rfl (by decide) (fun A F => ?_)
      refine Sx.sv F (Sx.d_move F (Or.inl rfl) rfl) (Sx.wanted_none rfl _) rfl (by decide) (fun A F => ?_)
      refine Sx.sv F (Sx.d_move F (Or.inl rfl) rfl) (Sx.wanted_none rfl _) rfl (by decide) (fun A F => ?_)
      refine Sx.sv F (Sx.d_bin (v := .int .i64 (8 * i : Nat)) F rfl rfl rfl (Sx.i_mulN rfl (Sx.in_i64 _ (by omega)))) (Sx.wanted_none rfl _) rfl (by decide) (fun A F => ?_)
      refine Sx.sv F (Sx.d_move F (Or.inl rfl) rfl) (Sx.wanted_none rfl _) rfl (by decide) (fun A F => ?_)
      refine Sx.sv F (Sx.d_bin (v := .int .i64 (8 * i + t : Nat)) F rfl rfl rfl (Sx.i_addS (by rw [Sx.in64 _ (by omega)]; omega))) (Sx.wanted_none rfl _) rfl (by decide) (fun A F => ?_)
      refine Sx.sv F (Sx.d_ixR (k := (8 * i + t)) el_77 F rfl rfl rfl (rfl) (by omega)) (Sx.wanted_none rfl _) rfl (by decide) (fun A F => ?_)
      refine Sx.sv F (Sx.d_loadR (i := 1) (v := .int .i64 ((x.getLsbD (8 * i + t)).toNat)) one_3 F H rfl rfl rfl (Bi.at_ _ _ _ (by omega))) (Sx.wanted_none rfl _) rfl (by decide) (fun A F => ?_)
      refine Sx.sv F (Sx.d_bin (v := .int .i64 (By.part x i t)) F rfl rfl rfl (Sx.i_addN hps (Sx.in_i64 _ (by omega)))) (Sx.wanted_none rfl _) rfl (by decide) (fun A F => ?_)
      refine Sx.sv F (Sx.d_move F (Or.inr rfl) rfl) (Sx.wanted_none rfl _) rfl (by decide) (fun A F => ?_)
      refine Sx.nil ?_
      refine hK16 _ _ ?_
      refine Sx.plain ?_
      refine Sx.sv F (Sx.d_move F (Or.inl rfl) rfl) (Sx.wanted_none rfl _) rfl (by decide) (fun A F => ?_)
      refine Sx.sv F (Sx.d_bin (v := .int .i64 ((t : Int) - 1)) F rfl rfl rfl (Sx.i_subS (by rw [Sx.in64 _ (by omega)]; omega))) (Sx.wanted_none rfl _) rfl (by decide) (fun A F => ?_)
      refine Sx.sv F (Sx.d_move F (Or.inr rfl) rfl) (Sx.wanted_none rfl _) rfl (by decide) (fun A F => ?_)
      refine Sx.nil ?_
      try dsimp only [Exit.then]
      exact ⟨t, by omega, by omega, F.to ⟨rfl, rfl, rfl, rfl, rfl, rfl, trivial⟩, H⟩
  · obtain rfl : i = 16 := by omega
    refine Sx.seq (fun K17 hK17 => ?_)
    refine Sx.seq (fun K18 hK18 => ?_)
    refine Sx.plain ?_
    refine Sx.sv F (Sx.d_move F (Or.inl rfl) rfl) (Sx.wanted_none rfl _) rfl (by decide) (fun A F => ?_)
    refine Sx.sv F (Sx.d_bin (v := .bool false) F rfl rfl rfl (Sx.i_lt (by decide))) (Sx.wanted_none rfl _) rfl (by decide) (fun A F => ?_)
    refine Sx.nil ?_
    refine hK18 _ _ ?_
    refine Sx.condF F rfl ?_
    refine wp_exit ?_
    try dsimp only [Exit.then, Exit.jump]
    refine Sx.exit_here ?_
    refine hK4 _ _ ?_
    refine Sx.seq (fun K19 hK19 => ?_)
    refine Sx.plain ?_
    refine Sx.sv F (Sx.d_move F (Or.inl rfl) rfl) (Sx.wanted_none rfl _) rfl (by decide) (fun A F => ?_)
    refine Sx.sv F (Sx.d_move F (Or.inr rfl) rfl) (Sx.wanted_none rfl _) rfl (by decide) (fun A F => ?_)
    refine Sx.nil ?_
    refine hK19 _ _ ?_
    refine wp_ret ?_
    try dsimp only [Exit.then, Exit.inBlock, Exit.jump]
    refine Sx.ret1 F Try.results34 (Sx.res_tmp (v := v) F rfl) ?_
    exact ⟨_, rfl, H.row 0 _ rfl rfl, H.below⟩
set_option maxRecDepth 100000 in
theorem rtake_s (f : Nat → Nat) (hf : ∀ k, f k < 256) (ada : Option Addr) (capa : Nat) (w0 : World) (hca : ∀ k, k < 16 → ∃ b o, ada = some ⟨b, o, none⟩ ∧ w0.cell? ⟨b, o + k, none⟩ = some (.int .u8 (f k : Nat))) : Calls Try.prog 25 #[.slice ada 16 capa] w0 fun e w' => e = .returned (.tuple #[.agg #[.int .u64 ((Wd.hi (By.val f 16)).toNat), .int .u64 ((Wd.lo (By.val f 16)).toNat)], .int .i64 0]) ∧ Below w0.heap.size w0 w' := by
  refine Sx.enter (args := [.slice ada 16 capa]) Try.func25 rfl Try.ntmps25 (Nat.le_of_ble_eq_true rfl) (fun A F => ?_)
  have H := Sx.Own.start w0
  refine Sx.seq (fun K1 hK1 => ?_)
  refine Sx.plain ?_
  refine Sx.sb F (Sx.d_alloc H rfl [.int .u64 ((Wd.hi 0#128).toNat), .int .u64 ((Wd.lo 0#128).toNat)] zero_43) (Sx.wanted_none rfl _) rfl (by decide) (fun g1 A w F H => ?_)
  refine Sx.sv F (Sx.d_move F (Or.inr rfl) rfl) (Sx.wanted_none rfl _) rfl (by decide) (fun A F => ?_)
  refine Sx.nil ?_
  refine hK1 _ _ ?_
  refine Sx.seq (fun K2 hK2 => ?_)
  refine Sx.seq (fun K3 hK3 => ?_)
  refine Sx.plain ?_
  refine Sx.sv F (Sx.d_move F (Or.inl rfl) rfl) (Sx.wanted_none rfl _) rfl (by decide) (fun A F => ?_)
  refine Sx.sv F (Sx.d_lenS el_39 F rfl rfl) (Sx.wanted_none rfl _) rfl (by decide) (fun A F => ?_)
  refine Sx.sv F (Sx.d_bin (v := .bool false) F rfl rfl rfl (Sx.i_ne (by decide))) (Sx.wanted_none rfl _) rfl (by decide) (fun A F => ?_)
  refine Sx.nil ?_
  refine hK3 _ _ ?_
  refine Sx.condF F rfl ?_
  refine wp_skip ?_
  refine hK2 _ _ ?_
  refine Sx.seq (fun K4 hK4 => ?_)
  refine Sx.plain ?_
  refine Sx.sr (mk := fun v => v) F (Sx.d_litR (qs := #[]) (cs := #[]) (E := 3) (z := 1) F H rfl rfl (fun _ => by kernel_rfl) rfl (by decide)) (Sx.wanted_none rfl _) rfl (by decide) (fun v1 A w F (H : Sx.Own w0 _ [(true, g1, [.int .u64 ((Wd.hi 0#128).toNat), .int .u64 ((Wd.lo 0#128).toNat)])] [⟨true, v1, 3, 1, 0, []⟩]) => ?_)
  refine Sx.sv F (Sx.d_move F (Or.inr rfl) rfl) (Sx.wanted_none rfl _) rfl (by decide) (fun A F => ?_)
  refine Sx.nil ?_
  refine hK4 _ _ ?_
  refine Sx.seq (fun K5 hK5 => ?_)
  refine Sx.seq (fun K6 hK6 => ?_)
  refine Sx.plain ?_
  refine Sx.sv F (Sx.d_move F (Or.inr rfl) rfl) (Sx.wanted_none rfl _) rfl (by decide) (fun A F => ?_)
  refine Sx.nil ?_
  refine hK6 _ _ ?_
  refine wp_block ?_
  refine Sx.loop (fun q A w => ∃ (i : Nat) (v : Value), q = 16 - i ∧ i ≤ 16 ∧ Sx.Fr 26 A [(0, .slice ada 16 capa), (2, .pointer (some ⟨g1, 0, none⟩)), (4, v), (5, .int .i64 i)] ∧ Sx.Own w0 w [(true, g1, [.int .u64 ((Wd.hi 0#128).toNat), .int .u64 ((Wd.lo 0#128).toNat)])] [⟨true, v, 3, 1, (8 * i), (Bi.bis (By.bit f) (8 * i))⟩]) 16 ⟨0, v1, rfl, Nat.zero_le _, F.to ⟨rfl, rfl, rfl, rfl, trivial⟩, H⟩ ?_
  rintro q A w ⟨i, v, rfl, hi, F, H⟩
  by_cases hlt : i < 16
  · obtain ⟨ga, oa, hada, hcella⟩ := hca _ hlt
    have hfi := hf i
    refine Sx.seq (fun K7 hK7 => ?_)
    refine Sx.seq (fun K8 hK8 => ?_)
    refine Sx.plain ?_
    refine Sx.sv F (Sx.d_move F (Or.inl rfl) rfl) (Sx.wanted_none rfl _) rfl (by decide) (fun A F => ?_)
    refine Sx.sv F (Sx.d_bin (v := .bool true) F rfl rfl rfl (Sx.i_lt (decide_eq_true (by omega)))) (Sx.wanted_none rfl _) rfl (by decide) (fun A F => ?_)
    refine Sx.nil ?_
    refine hK8 _ _ ?_
    refine Sx.condT F rfl ?_
    refine wp_skip ?_
    refine hK7 _ _ ?_
    refine Sx.seq (fun K9 hK9 => ?_)
    refine wp_block ?_
    refine Sx.plain ?_
    refine Sx.sv F (Sx.d_move F (Or.inl rfl) rfl) (Sx.wanted_none rfl _) rfl (by decide) (fun A F => ?_)
    refine Sx.sv F (Sx.d_move F (Or.inl rfl) rfl) (Sx.wanted_none rfl _) rfl (by decide) (fun A F => ?_)
    refine Sx.sv F (Sx.d_move F (Or.inl rfl) rfl) (Sx.wanted_none rfl _) rfl (by decide) (fun A F => ?_)
    refine Sx.sv F (Sx.d_ix1 (k := i) (g := ga) (off := oa) el_39 F rfl rfl hada rfl (rfl) (by omega)) (Sx.wanted_none rfl _) rfl (by decide) (fun A F => ?_)
    refine Sx.sv F (Sx.d_loadF one_5 F H rfl rfl hcella) (Sx.wanted_none rfl _) rfl (by decide) (fun A F => ?_)
    refine Sx.sv F (Sx.d_conv (v := .int .u64 ((BitVec.ofNat 64 (f i)).toNat)) F rfl rfl (Sx.c_u8_u64 _ (by omega) _)) (Sx.wanted_none rfl _) rfl (by decide) (fun A F => ?_)
    refine Sx.sr (mk := fun v => v) F (Sx.d_callR (vs := [.int .u64 ((BitVec.ofNat 64 (f i)).toNat)]) (mk := fun v => v) if_58 F H rfl rfl (rbits_c (BitVec.ofNat 64 (f i)) _)) (Sx.wanted_none rfl _) rfl (by decide) (fun v2 A w F (H : Sx.Own w0 _ [(true, g1, [.int .u64 ((Wd.hi 0#128).toNat), .int .u64 ((Wd.lo 0#128).toNat)])] [⟨true, v2, 3, 1, 64, (Bi.bis (BitVec.getLsbD (BitVec.ofNat 64 (f i))) 64)⟩, ⟨true, v, 3, 1, (8 * i), (Bi.bis (By.bit f) (8 * i))⟩]) => ?_)
    obtain ⟨lg, lc, rfl, hc1, hc2⟩ := H.open (i := 0) rfl (by omega)
    replace H : Sx.Own w0 w [(true, g1, [.int .u64 ((Wd.hi 0#128).toNat), .int .u64 ((Wd.lo 0#128).toNat)])] [⟨true, .slice (some ⟨lg, 0, none⟩) 8 lc, 3, 1, 8, (Bi.bis (BitVec.getLsbD (BitVec.ofNat 64 (f i))) 8)⟩, ⟨true, v, 3, 1, (8 * i), (Bi.bis (By.bit f) (8 * i))⟩] := H.take 0 8 rfl (by decide) (Bi.take _ 64 8 (by decide))
    refine Sx.sv F (Sx.d_sliceH (h := 8) el_77 F rfl rfl rfl rfl (by omega)) (Sx.wanted_none rfl _) rfl (by decide) (fun A F => ?_)
    refine Sx.sr (mk := fun v => v) F (Sx.d_appendR (i := 1) (j := 0) el_77 F H rfl rfl rfl rfl rfl (Bi.ones _ _) rfl (by omega) (by decide)) (Sx.wanted_none rfl _) rfl (by decide) (fun v3 A w F (H : Sx.Own w0 _ [(true, g1, [.int .u64 ((Wd.hi 0#128).toNat), .int .u64 ((Wd.lo 0#128).toNat)])] [⟨true, .slice (some ⟨lg, 0, none⟩) 8 lc, 3, 1, 8, (Bi.bis (BitVec.getLsbD (BitVec.ofNat 64 (f i))) 8)⟩, ⟨true, v3, 3, 1, ((8 * i) + 8), (Bi.bis (By.bit f) (8 * i)) ++ (Bi.bis (BitVec.getLsbD (BitVec.ofNat 64 (f i))) 8)⟩]) => ?_)
    refine Sx.sv F (Sx.d_move F (Or.inr rfl) rfl) (Sx.wanted_none rfl _) rfl (by decide) (fun A F => ?_)
    refine Sx.nil ?_
    refine hK9 _ _ ?_
    refine Sx.plain ?_
    refine Sx.sv F (Sx.d_move F (Or.inl rfl) rfl) (Sx.wanted_none rfl _) rfl (by decide) (fun A F => ?_)
    refine Sx.sv F (Sx.d_bin (v := .int .i64 (i + 1 : Nat)) F rfl rfl rfl (Sx.i_addN rfl (Sx.in_i64 _ (by omega)))) (Sx.wanted_none rfl _) rfl (by decide) (fun A F => ?_)
    refine Sx.sv F (Sx.d_move F (Or.inr rfl) rfl) (Sx.wanted_none rfl _) rfl (by decide) (fun A F => ?_)
    refine Sx.nil ?_
    try dsimp only [Exit.then]
    exact ⟨16 - (i + 1), by omega, i + 1, v3, rfl, by omega, F.to ⟨rfl, rfl, rfl, rfl, trivial⟩, by rw [← By.bits_snoc f i hfi]; exact H.to' [0] [1] (by decide) (by decide) rfl rfl⟩
  · obtain rfl : i = 16 := by omega
    refine Sx.seq (fun K10 hK10 => ?_)
    refine Sx.seq (fun K11 hK11 => ?_)
    refine Sx.plain ?_
    refine Sx.sv F (Sx.d_move F (Or.inl rfl) rfl) (Sx.wanted_none rfl _) rfl (by decide) (fun A F => ?_)
    refine Sx.sv F (Sx.d_bin (v := .bool false) F rfl rfl rfl (Sx.i_lt (by decide))) (Sx.wanted_none rfl _) rfl (by decide) (fun A F => ?_)
    refine Sx.nil ?_
    refine hK11 _ _ ?_
    refine Sx.condF F rfl ?_
    refine wp_exit ?_
    try dsimp only [Exit.then, Exit.jump]
    refine Sx.exit_here ?_
    refine hK5 _ _ ?_
    refine Sx.seq (fun K12 hK12 => ?_)
    refine Sx.plain ?_
    refine Sx.sv F (Sx.d_move F (Or.inl rfl) rfl) (Sx.wanted_none rfl _) rfl (by decide) (fun A F => ?_)
    refine Sx.sw F (Sx.d_call (vs := [v]) (v := .agg #[.int .u64 ((Wd.hi (Bi.of (By.bit f) (8 * 16))).toNat), .int .u64 ((Wd.lo (Bi.of (By.bit f) (8 * 16))).toNat)]) if_59 F H rfl rfl (rof_c (By.bit f) _ _ _ (Bi.Rd.row (H.row 0 _ rfl rfl) (by decide)))) (Sx.wanted_none rfl _) rfl (by decide) (fun A w F H => ?_)
    refine Sx.ss F (Sx.d_store (i := 0) (xs := [.int .u64 ((Wd.hi (Bi.of (By.bit f) (8 * 16))).toNat), .int .u64 ((Wd.lo (Bi.of (By.bit f) (8 * 16))).toNat)]) (us := [.int .u64 ((Wd.hi (Bi.of (By.bit f) (8 * 16))).toNat), .int .u64 ((Wd.lo (Bi.of (By.bit f) (8 * 16))).toNat)]) sz_43 F H rfl rfl rfl rfl rfl rfl rfl (Nat.le_of_ble_eq_true rfl) rfl) (Sx.wanted_none rfl _) rfl (fun A w F (H : Sx.Own w0 _ [(true, g1, [.int .u64 ((Wd.hi (Bi.of (By.bit f) (8 * 16))).toNat), .int .u64 ((Wd.lo (Bi.of (By.bit f) (8 * 16))).toNat)])] [⟨true, v, 3, 1, (8 * 16), (Bi.bis (By.bit f) (8 * 16))⟩]) => ?_)
    refine Sx.sv F (Sx.d_move F (Or.inr rfl) rfl) (Sx.wanted_none rfl _) rfl (by decide) (fun A F => ?_)
    refine Sx.nil ?_
    refine hK12 _ _ ?_
    refine wp_ret ?_
    try dsimp only [Exit.then, Exit.inBlock, Exit.jump]
    refine Sx.ret2 F Try.results25 (Sx.res_row (i := 0) (xs := [.int .u64 ((Wd.hi (Bi.of (By.bit f) (8 * 16))).toNat), .int .u64 ((Wd.lo (Bi.of (By.bit f) (8 * 16))).toNat)]) rw_43 F H rfl rfl rfl rfl) (Sx.res_tmp (v := .int .i64 0) F rfl) ⟨?_, H.below⟩
    rw [← By.of_val f hf]
set_option maxRecDepth 100000 in
theorem rtake_n (ada : Option Addr) (len capa : Nat) (hl : len ≠ 16) (w0 : World) : Calls Try.prog 25 #[.slice ada len capa] w0 fun e w' => e = .returned (.tuple #[.agg #[.int .u64 ((Wd.hi 0#128).toNat), .int .u64 ((Wd.lo 0#128).toNat)], .int .i64 11]) ∧ Below w0.heap.size w0 w' := by
  refine Sx.enter (args := [.slice ada len capa]) Try.func25 rfl Try.ntmps25 (Nat.le_of_ble_eq_true rfl) (fun A F => ?_)
  have H := Sx.Own.start w0
  refine Sx.seq (fun K1 hK1 => ?_)
  refine Sx.plain ?_
  refine Sx.sb F (Sx.d_alloc H rfl [.int .u64 ((Wd.hi 0#128).toNat), .int .u64 ((Wd.lo 0#128).toNat)] zero_43) (Sx.wanted_none rfl _) rfl (by decide) (fun g1 A w F H => ?_)
  refine Sx.sv F (Sx.d_move F (Or.inr rfl) rfl) (Sx.wanted_none rfl _) rfl (by decide) (fun A F => ?_)
  refine Sx.nil ?_
  refine hK1 _ _ ?_
  refine Sx.seq (fun K2 hK2 => ?_)
  refine Sx.seq (fun K3 hK3 => ?_)
  refine Sx.plain ?_
  refine Sx.sv F (Sx.d_move F (Or.inl rfl) rfl) (Sx.wanted_none rfl _) rfl (by decide) (fun A F => ?_)
  refine Sx.sv F (Sx.d_lenS el_39 F rfl rfl) (Sx.wanted_none rfl _) rfl (by decide) (fun A F => ?_)
  refine Sx.sv F (Sx.d_bin (v := .bool true) F rfl rfl rfl (Sx.i_ne (bne_iff_ne.2 (by omega)))) (Sx.wanted_none rfl _) rfl (by decide) (fun A F => ?_)
  refine Sx.nil ?_
  refine hK3 _ _ ?_
  refine Sx.condT F rfl ?_
  refine Sx.seq (fun K4 hK4 => ?_)
  refine Sx.plain ?_
  refine Sx.sv F (Sx.d_build (qs := #[]) (v := .agg #[.int .u64 ((Wd.hi 0#128).toNat), .int .u64 ((Wd.lo 0#128).toNat)]) F rfl rfl (by kernel_rfl)) (Sx.wanted_none rfl _) rfl (by decide) (fun A F => ?_)
  refine Sx.ss F (Sx.d_store (i := 0) (xs := [.int .u64 ((Wd.hi 0#128).toNat), .int .u64 ((Wd.lo 0#128).toNat)]) (us := [.int .u64 ((Wd.hi 0#128).toNat), .int .u64 ((Wd.lo 0#128).toNat)]) sz_43 F H rfl rfl rfl rfl rfl rfl rfl (Nat.le_of_ble_eq_true rfl) rfl) (Sx.wanted_none rfl _) rfl (fun A w F (H : Sx.Own w0 _ [(true, g1, [.int .u64 ((Wd.hi 0#128).toNat), .int .u64 ((Wd.lo 0#128).toNat)])] []) => ?_)
  refine Sx.sv F (Sx.d_move F (Or.inr rfl) rfl) (Sx.wanted_none rfl _) rfl (by decide) (fun A F => ?_)
  refine Sx.nil ?_
  refine hK4 _ _ ?_
  refine wp_ret ?_
  try dsimp only [Exit.then, Exit.inBlock, Exit.jump]
  refine Sx.ret2 F Try.results25 (Sx.res_row (i := 0) (xs := [.int .u64 ((Wd.hi 0#128).toNat), .int .u64 ((Wd.lo 0#128).toNat)]) rw_43 F H rfl rfl rfl rfl) (Sx.res_tmp (v := .int .i64 11) F rfl) ⟨?_, H.below⟩
  rfl
theorem rtake_ok (f : Nat → Nat) (hf : ∀ k, f k < 256) (va : Value) (w : World) (ha : By.Rd w va f 16) : Calls Try.prog 25 #[va] w fun e w' => e = .returned (.tuple #[.agg #[.int .u64 ((Wd.hi (By.val f 16)).toNat), .int .u64 ((Wd.lo (By.val f 16)).toNat)], .int .i64 0]) ∧ Below w.heap.size w w' := by
  obtain ⟨hl, ada, capa, rfl, hca⟩ := ha
  exact rtake_s f hf ada capa w hca
theorem rtake_no (f : Nat → Nat) (va : Value) (len : Nat) (hn : len ≠ 16) (w : World) (ha : By.Rd w va f len) : Calls Try.prog 25 #[va] w fun e w' => e = .returned (.tuple #[.agg #[.int .u64 ((Wd.hi 0#128).toNat), .int .u64 ((Wd.lo 0#128).toNat)], .int .i64 11]) ∧ Below w.heap.size w w' := by
  obtain ⟨hl, ada, capa, rfl, hca⟩ := ha
  exact rtake_n ada len capa hn w
set_option maxRecDepth 100000 in
theorem rsame_s (f : Nat → Nat) (m : Nat) (hm : m ≤ 1000000) (ada adb : Option Addr) (capa capb : Nat) (w0 : World) (hca : ∀ k, k < m → ∃ b o, ada = some ⟨b, o, none⟩ ∧ w0.cell? ⟨b, o + k, none⟩ = some (.int .u8 (f k : Nat))) (hcb : ∀ k, k < m → ∃ b o, adb = some ⟨b, o, none⟩ ∧ w0.cell? ⟨b, o + k, none⟩ = some (.int .u8 (f k : Nat))) : Calls Try.prog 33 #[.slice ada m capa, .slice adb m capb] w0 fun e w' => e = .returned (.bool true) ∧ Below w0.heap.size w0 w' := by
  refine Sx.enter (args := [.slice ada m capa, .slice adb m capb]) Try.func33 rfl Try.ntmps33 (Nat.le_of_ble_eq_true rfl) (fun A F => ?_)
  have H := Sx.Own.start w0
  refine Sx.seq (fun K1 hK1 => ?_)
  refine Sx.plain ?_
  refine Sx.sv F (Sx.d_move F (Or.inr rfl) rfl) (Sx.wanted_none rfl _) rfl (by decide) (fun A F => ?_)
  refine Sx.nil ?_
  refine hK1 _ _ ?_
  refine Sx.seq (fun K2 hK2 => ?_)
  refine Sx.seq (fun K3 hK3 => ?_)
  refine Sx.plain ?_
  refine Sx.sv F (Sx.d_move F (Or.inl rfl) rfl) (Sx.wanted_none rfl _) rfl (by decide) (fun A F => ?_)
  refine Sx.sv F (Sx.d_lenS el_39 F rfl rfl) (Sx.wanted_none rfl _) rfl (by decide) (fun A F => ?_)
  refine Sx.sv F (Sx.d_move F (Or.inl rfl) rfl) (Sx.wanted_none rfl _) rfl (by decide) (fun A F => ?_)
  refine Sx.sv F (Sx.d_lenS el_39 F rfl rfl) (Sx.wanted_none rfl _) rfl (by decide) (fun A F => ?_)
  refine Sx.sv F (Sx.d_bin (v := .bool false) F rfl rfl rfl (Sx.i_ne (by simp))) (Sx.wanted_none rfl _) rfl (by decide) (fun A F => ?_)
  refine Sx.nil ?_
  refine hK3 _ _ ?_
  refine Sx.condF F rfl ?_
  refine wp_skip ?_
  refine hK2 _ _ ?_
  refine Sx.seq (fun K4 hK4 => ?_)
  refine Sx.seq (fun K5 hK5 => ?_)
  refine Sx.plain ?_
  refine Sx.sv F (Sx.d_move F (Or.inr rfl) rfl) (Sx.wanted_none rfl _) rfl (by decide) (fun A F => ?_)
  refine Sx.nil ?_
  refine hK5 _ _ ?_
  refine wp_block ?_
  refine Sx.loop (fun q A w => ∃ i : Nat, q = m - i ∧ i ≤ m ∧ Sx.Fr 26 A [(0, .slice ada m capa), (1, .slice adb m capb), (5, .int .i64 i)] ∧ Sx.Own w0 w [] []) m ⟨0, rfl, Nat.zero_le _, F.to ⟨rfl, rfl, rfl, trivial⟩, H⟩ ?_
  rintro q A w ⟨i, rfl, hi, F, H⟩
  by_cases hlt : i < m
  · obtain ⟨ga, oa, hada, hcella⟩ := hca _ hlt
    obtain ⟨gb, ob, hadb, hcellb⟩ := hcb _ hlt
    refine Sx.seq (fun K6 hK6 => ?_)
    refine Sx.seq (fun K7 hK7 => ?_)
    refine Sx.plain ?_
    refine Sx.sv F (Sx.d_move F (Or.inl rfl) rfl) (Sx.wanted_none rfl _) rfl (by decide) (fun A F => ?_)
    refine Sx.sv F (Sx.d_move F (Or.inl rfl) rfl) (Sx.wanted_none rfl _) rfl (by decide) (fun A F => ?_)
    refine Sx.sv F (Sx.d_lenS el_39 F rfl rfl) (Sx.wanted_none rfl _) rfl (by decide) (fun A F => ?_)
    refine Sx.sv F (Sx.d_bin (v := .bool true) F rfl rfl rfl (Sx.i_lt (decide_eq_true (by omega)))) (Sx.wanted_none rfl _) rfl (by decide) (fun A F => ?_)
    refine Sx.nil ?_
    refine hK7 _ _ ?_
    refine Sx.condT F rfl ?_
    refine wp_skip ?_
    refine hK6 _ _ ?_
    refine Sx.seq (fun K8 hK8 => ?_)
    refine wp_block ?_
    refine Sx.seq (fun K9 hK9 => ?_)
    have F := Sx.Fr.to F (kv' := [(0, .slice ada m capa), (1, .slice adb m capb), (5, .int .i64 i), (11, .int .i64 i), (12, .slice ada m capa), (13, .int .i64 m), (14, .bool true)]) ⟨rfl, rfl, rfl, rfl, rfl, rfl, rfl, trivial⟩
    refine Sx.drawn F (by kernel_rfl) (by kernel_rfl) (by kernel_rfl) [some (.slice ada m capa), some (.int .i64 i), some (.pointer (some ⟨ga, oa + i, none⟩)), some (.int .u8 (f i)), some (.slice adb m capb), some (.int .i64 i), some (.pointer (some ⟨gb, ob + i, none⟩)), some (.int .u8 (f i)), some (.bool false)] (fun L A w => Sx.Own w0 w [] []) H.drew ?_ ?_
    · refine ⟨?_, ?_, ?_, ?_, ?_, ?_, ?_, ?_, ?_, trivial⟩
      · show Sx.StepAt _ _ _ _ _ _ _ 0
        intro L A w up hun hd F H
        have F := Sx.Fr.to F (kv' := [(0, .slice ada m capa)]) ⟨rfl, trivial⟩
        refine Sx.step_on rfl (Sx.d_move F (Or.inl rfl) rfl) ?_
        rintro xv w' ⟨hx, rfl⟩
        exact ⟨(fun cv hc => hx.trans (Option.some.inj (Option.some.inj hc))), H⟩
      · show Sx.StepAt _ _ _ _ _ _ _ 1
        intro L A w up hun hd F H
        have F := Sx.Fr.to F (kv' := [(5, .int .i64 i)]) ⟨rfl, trivial⟩
        refine Sx.step_on rfl (Sx.d_move F (Or.inl rfl) rfl) ?_
        rintro xv w' ⟨hx, rfl⟩
        exact ⟨(fun cv hc => hx.trans (Option.some.inj (Option.some.inj hc))), H⟩
      · show Sx.StepAt _ _ _ _ _ _ _ 2
        intro L A w up hun hd F H
        have F := Sx.Fr.to F (kv' := [(17, .slice ada m capa), (18, .int .i64 i)]) ⟨rfl, rfl, trivial⟩
        refine Sx.step_on rfl (Sx.d_ix1 (k := i) (g := ga) (off := oa) el_39 F rfl rfl hada rfl (rfl) (by omega)) ?_
        rintro xv w' ⟨hx, rfl⟩
        exact ⟨(fun cv hc => hx.trans (Option.some.inj (Option.some.inj hc))), H⟩
      · show Sx.StepAt _ _ _ _ _ _ _ 3
        intro L A w up hun hd F H
        have F := Sx.Fr.to F (kv' := [(19, .pointer (some ⟨ga, oa + i, none⟩))]) ⟨rfl, trivial⟩
        refine Sx.step_on rfl (Sx.d_loadF one_5 F H rfl rfl hcella) ?_
        rintro xv w' ⟨hx, rfl⟩
        exact ⟨(fun cv hc => hx.trans (Option.some.inj (Option.some.inj hc))), H⟩
      · show Sx.StepAt _ _ _ _ _ _ _ 4
        intro L A w up hun hd F H
        have F := Sx.Fr.to F (kv' := [(1, .slice adb m capb)]) ⟨rfl, trivial⟩
        refine Sx.step_on rfl (Sx.d_move F (Or.inl rfl) rfl) ?_
        rintro xv w' ⟨hx, rfl⟩
        exact ⟨(fun cv hc => hx.trans (Option.some.inj (Option.some.inj hc))), H⟩
      · show Sx.StepAt _ _ _ _ _ _ _ 5
        intro L A w up hun hd F H
        have F := Sx.Fr.to F (kv' := [(5, .int .i64 i)]) ⟨rfl, trivial⟩
        refine Sx.step_on rfl (Sx.d_move F (Or.inl rfl) rfl) ?_
        rintro xv w' ⟨hx, rfl⟩
        exact ⟨(fun cv hc => hx.trans (Option.some.inj (Option.some.inj hc))), H⟩
      · show Sx.StepAt _ _ _ _ _ _ _ 6
        intro L A w up hun hd F H
        have F := Sx.Fr.to F (kv' := [(21, .slice adb m capb), (22, .int .i64 i)]) ⟨rfl, rfl, trivial⟩
        refine Sx.step_on rfl (Sx.d_ix1 (k := i) (g := gb) (off := ob) el_39 F rfl rfl hadb rfl (rfl) (by omega)) ?_
        rintro xv w' ⟨hx, rfl⟩
        exact ⟨(fun cv hc => hx.trans (Option.some.inj (Option.some.inj hc))), H⟩
      · show Sx.StepAt _ _ _ _ _ _ _ 7
        intro L A w up hun hd F H
        have F := Sx.Fr.to F (kv' := [(23, .pointer (some ⟨gb, ob + i, none⟩))]) ⟨rfl, trivial⟩
        refine Sx.step_on rfl (Sx.d_loadF one_5 F H rfl rfl hcellb) ?_
        rintro xv w' ⟨hx, rfl⟩
        exact ⟨(fun cv hc => hx.trans (Option.some.inj (Option.some.inj hc))), H⟩
      · show Sx.StepAt _ _ _ _ _ _ _ 8
        intro L A w up hun hd F H
        have F := Sx.Fr.to F (kv' := [(20, .int .u8 (f i)), (24, .int .u8 (f i))]) ⟨rfl, rfl, trivial⟩
        refine Sx.step_on rfl (Sx.d_bin (v := .bool false) F rfl rfl rfl (Sx.i_ne (by simp))) ?_
        rintro xv w' ⟨hx, rfl⟩
        exact ⟨(fun cv hc => hx.trans (Option.some.inj (Option.some.inj hc))), H⟩
    · intro L A w hL F H
      have F := Sx.Fr.to F (kv' := [(0, .slice ada m capa), (1, .slice adb m capb), (5, .int .i64 i), (11, .int .i64 i), (12, .slice ada m capa), (13, .int .i64 m), (14, .bool true), (25, .bool false)]) ⟨rfl, rfl, rfl, rfl, rfl, rfl, rfl, rfl, trivial⟩
      refine hK9 _ _ ?_
      refine Sx.condF F rfl ?_
      refine wp_skip ?_
      refine hK8 _ _ ?_
      refine Sx.plain ?_
      refine Sx.sv F (Sx.d_move F (Or.inl rfl) rfl) (Sx.wanted_none rfl _) rfl (by decide) (fun A F => ?_)
      refine Sx.sv F (Sx.d_bin (v := .int .i64 (i + 1 : Nat)) F rfl rfl rfl (Sx.i_addN rfl (Sx.in_i64 _ (by omega)))) (Sx.wanted_none rfl _) rfl (by decide) (fun A F => ?_)
      refine Sx.sv F (Sx.d_move F (Or.inr rfl) rfl) (Sx.wanted_none rfl _) rfl (by decide) (fun A F => ?_)
      refine Sx.nil ?_
      try dsimp only [Exit.then]
      exact ⟨m - (i + 1), by omega, i + 1, rfl, by omega, F.to ⟨rfl, rfl, rfl, trivial⟩, H⟩
  · obtain rfl : i = m := by omega
    refine Sx.seq (fun K10 hK10 => ?_)
    refine Sx.seq (fun K11 hK11 => ?_)
    refine Sx.plain ?_
    refine Sx.sv F (Sx.d_move F (Or.inl rfl) rfl) (Sx.wanted_none rfl _) rfl (by decide) (fun A F => ?_)
    refine Sx.sv F (Sx.d_move F (Or.inl rfl) rfl) (Sx.wanted_none rfl _) rfl (by decide) (fun A F => ?_)
    refine Sx.sv F (Sx.d_lenS el_39 F rfl rfl) (Sx.wanted_none rfl _) rfl (by decide) (fun A F => ?_)
    refine Sx.sv F (Sx.d_bin (v := .bool false) F rfl rfl rfl (Sx.i_lt (by simp))) (Sx.wanted_none rfl _) rfl (by decide) (fun A F => ?_)
    refine Sx.nil ?_
    refine hK11 _ _ ?_
    refine Sx.condF F rfl ?_
    refine wp_exit ?_
    try dsimp only [Exit.then, Exit.jump]
    refine Sx.exit_here ?_
    refine hK4 _ _ ?_
    refine Sx.seq (fun K12 hK12 => ?_)
    refine Sx.plain ?_
    refine Sx.sv F (Sx.d_move F (Or.inr rfl) rfl) (Sx.wanted_none rfl _) rfl (by decide) (fun A F => ?_)
    refine Sx.nil ?_
    refine hK12 _ _ ?_
    refine wp_ret ?_
    try dsimp only [Exit.then, Exit.inBlock, Exit.jump]
    refine Sx.ret1 F Try.results33 (Sx.res_tmp (v := .bool true) F rfl) ⟨?_, H.below⟩
    rfl
theorem rsame_c (f : Nat → Nat) (m : Nat) (va vb : Value) (w : World) (ha : By.Rd w va f m) (hb : By.Rd w vb f m) : Calls Try.prog 33 #[va, vb] w fun e w' => e = .returned (.bool true) ∧ Below w.heap.size w w' := by
  obtain ⟨hl, ada, capa, rfl, hca⟩ := ha
  obtain ⟨_, adb, capb, rfl, hcb⟩ := hb
  exact rsame_s f m hl ada adb capa capb w hca hcb
end Go.Proofs.Ytpbdffmgendboab
