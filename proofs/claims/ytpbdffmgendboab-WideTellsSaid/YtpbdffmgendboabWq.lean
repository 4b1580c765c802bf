/- wide.Print walked. -/
import Derived.Test.YtpbdffmgendboabWp
namespace Go.Proofs.Ytpbdffmgendboab
open Go Go.RowKit
set_option maxRecDepth 100000 in
theorem wprint_c (da : BitVec 128) (w0 : World) : Calls Try.prog 22 #[.agg #[.int .u64 ((Wd.hi da).toNat), .int .u64 ((Wd.lo da).toNat)]] w0 fun e w' => e = .returned (.string (Dg.str da.toNat)) ∧ Below w0.heap.size w0 w' := by
  refine Sx.enter (args := [.agg #[.int .u64 ((Wd.hi da).toNat), .int .u64 ((Wd.lo da).toNat)]]) Try.func22 rfl Try.ntmps22 (Nat.le_of_ble_eq_true rfl) (fun A F => ?_)
  have H := Sx.Own.start w0
  refine Sx.seq (fun K1 hK1 => ?_)
  refine Sx.plain ?_
  refine Sx.sb F (Sx.d_box F H rfl rfl [.int .u64 ((Wd.hi da).toNat), .int .u64 ((Wd.lo da).toNat)] rfl) (Sx.wanted_none rfl _) rfl (by decide) (fun g1 A w F H => ?_)
  refine Sx.sv F (Sx.d_move F (Or.inr rfl) rfl) (Sx.wanted_none rfl _) rfl (by decide) (fun A F => ?_)
  refine Sx.nil ?_
  refine hK1 _ _ ?_
  refine Sx.scope 0 (fun m A w => ∃ (A' : BitVec 128) (D : List Nat) (v : Value), m = A'.toNat ∧ (Dg.ds da.toNat).reverse = (Dg.ds A'.toNat).reverse ++ D ∧ Sx.Fr 20 A [(1, .pointer (some ⟨g1, 0, none⟩)), (3, v)] ∧ Sx.Own w0 w [(true, g1, [.int .u64 ((Wd.hi A').toNat), .int .u64 ((Wd.lo A').toNat)])] [⟨true, v, 5, 1, (Dg.cnt D), (Dg.row D)⟩]) rfl ?_ (fun first => ?_)
  · rintro m A w ⟨A', D, v, rfl, hJ, F, H⟩
    have hD := Dg.inv_len hJ
    have hm := Nat.mod_lt A'.toNat (show 0 < 10 by decide)
    by_cases hz : A'.toNat / 10 = 0
    · skip
      refine Sx.seq (fun K2 hK2 => ?_)
      refine Sx.plain ?_
      refine Sx.sv F (Sx.d_load (i := 0) (xs := [.int .u64 ((Wd.hi A').toNat), .int .u64 ((Wd.lo A').toNat)]) rw_24 F H rfl rfl rfl rfl rfl) (Sx.wanted_none rfl _) rfl (by decide) (fun A F => ?_)
      refine Sx.sw F (Sx.d_call (vs := [.agg #[.int .u64 ((Wd.hi A').toNat), .int .u64 ((Wd.lo A').toNat)]]) (v := .tuple #[.agg #[.int .u64 ((Wd.hi (Wd.ten A')).toNat), .int .u64 ((Wd.lo (Wd.ten A')).toNat)], .int .u8 (A'.toNat % 10 : Nat)]) if_55 F H rfl rfl (wten_c A' _)) (Sx.wanted_none rfl _) rfl (by decide) (fun A w F H => ?_)
      refine Sx.sv F (Sx.d_move F (Or.inl rfl) rfl) (Sx.wanted_none rfl _) rfl (by decide) (fun A F => ?_)
      refine Sx.sv F (Sx.d_extract (v := .agg #[.int .u64 ((Wd.hi (Wd.ten A')).toNat), .int .u64 ((Wd.lo (Wd.ten A')).toNat)]) F rfl rfl rfl) (Sx.wanted_none rfl _) rfl (by decide) (fun A F => ?_)
      refine Sx.sv F (Sx.d_extract (v := .int .u8 (A'.toNat % 10 : Nat)) F rfl rfl rfl) (Sx.wanted_none rfl _) rfl (by decide) (fun A F => ?_)
      refine Sx.ss F (Sx.d_store (i := 0) (xs := [.int .u64 ((Wd.hi (Wd.ten A')).toNat), .int .u64 ((Wd.lo (Wd.ten A')).toNat)]) (us := [.int .u64 ((Wd.hi (Wd.ten A')).toNat), .int .u64 ((Wd.lo (Wd.ten A')).toNat)]) sz_24 F H rfl rfl rfl rfl rfl rfl rfl (Nat.le_of_ble_eq_true rfl) rfl) (Sx.wanted_none rfl _) rfl (fun A w F (H : Sx.Own w0 _ [(true, g1, [.int .u64 ((Wd.hi (Wd.ten A')).toNat), .int .u64 ((Wd.lo (Wd.ten A')).toNat)])] [⟨true, v, 5, 1, (Dg.cnt D), (Dg.row D)⟩]) => ?_)
      refine Sx.sv F (Sx.d_move F (Or.inr rfl) rfl) (Sx.wanted_none rfl _) rfl (by decide) (fun A F => ?_)
      refine Sx.nil ?_
      refine hK2 _ _ ?_
      refine Sx.seq (fun K3 hK3 => ?_)
      refine Sx.plain ?_
      refine Sx.sv F (Sx.d_move F (Or.inl rfl) rfl) (Sx.wanted_none rfl _) rfl (by decide) (fun A F => ?_)
      refine Sx.sv F (Sx.d_bin (v := .int .u8 (48 + A'.toNat % 10 : Nat)) F rfl rfl rfl (Sx.i_addN rfl (Sx.in_u8 _ (by omega)))) (Sx.wanted_none rfl _) rfl (by decide) (fun A F => ?_)
      refine Sx.sr (mk := fun v => v) F (Sx.d_litR (qs := #[(0, .int .u8 (48 + A'.toNat % 10 : Nat))]) (cs := #[.int .u8 (48 + A'.toNat % 10 : Nat)]) (E := 5) (z := 1) F H rfl rfl (fun _ => by kernel_rfl) rfl (by decide)) (Sx.wanted_none rfl _) rfl (by decide) (fun v1 A w F (H : Sx.Own w0 _ [(true, g1, [.int .u64 ((Wd.hi (Wd.ten A')).toNat), .int .u64 ((Wd.lo (Wd.ten A')).toNat)])] [⟨true, v1, 5, 1, 1, [.int .u8 (48 + A'.toNat % 10 : Nat)]⟩, ⟨true, v, 5, 1, (Dg.cnt D), (Dg.row D)⟩]) => ?_)
      refine Sx.sv F (Sx.d_move F (Or.inl rfl) rfl) (Sx.wanted_none rfl _) rfl (by decide) (fun A F => ?_)
      refine Sx.sr (mk := fun v => v) F (Sx.d_appendR (i := 0) (j := 1) el_39 F H rfl rfl rfl rfl rfl (Dg.row_ones _) rfl (by omega) (by decide)) (Sx.wanted_none rfl _) rfl (by decide) (fun v2 A w F (H : Sx.Own w0 _ [(true, g1, [.int .u64 ((Wd.hi (Wd.ten A')).toNat), .int .u64 ((Wd.lo (Wd.ten A')).toNat)])] [⟨true, v2, 5, 1, (1 + (Dg.cnt D)), [.int .u8 (48 + A'.toNat % 10 : Nat)] ++ (Dg.row D)⟩, ⟨true, v, 5, 1, (Dg.cnt D), (Dg.row D)⟩]) => ?_)
      refine Sx.sv F (Sx.d_move F (Or.inr rfl) rfl) (Sx.wanted_none rfl _) rfl (by decide) (fun A F => ?_)
      refine Sx.nil ?_
      refine hK3 _ _ ?_
      refine Sx.seq (fun K4 hK4 => ?_)
      refine Sx.seq (fun K5 hK5 => ?_)
      refine Sx.plain ?_
      refine Sx.sv F (Sx.d_load (i := 0) (xs := [.int .u64 ((Wd.hi (Wd.ten A')).toNat), .int .u64 ((Wd.lo (Wd.ten A')).toNat)]) rw_24 F H rfl rfl rfl rfl rfl) (Sx.wanted_none rfl _) rfl (by decide) (fun A F => ?_)
      refine Sx.sv F (Sx.d_build (qs := #[]) (v := .agg #[.int .u64 ((Wd.hi 0#128).toNat), .int .u64 ((Wd.lo 0#128).toNat)]) F rfl rfl (by kernel_rfl)) (Sx.wanted_none rfl _) rfl (by decide) (fun A F => ?_)
      refine Sx.sv F (Sx.d_bin (v := .bool false) F rfl rfl rfl (Sx.i_neV (by rw [show Wd.eqb (Wd.ten A') 0#128 = true from decide_eq_true ((Wd.ten_zero A').2 hz)]; rfl))) (Sx.wanted_none rfl _) rfl (by decide) (fun A F => ?_)
      refine Sx.nil ?_
      refine hK5 _ _ ?_
      refine Sx.condF F rfl ?_
      refine wp_skip ?_
      refine hK4 _ _ ?_
      refine Sx.seq (fun K6 hK6 => ?_)
      refine Sx.plain ?_
      refine Sx.sv F (Sx.d_move F (Or.inl rfl) rfl) (Sx.wanted_none rfl _) rfl (by decide) (fun A F => ?_)
      refine Sx.sv F (Sx.d_str (i := 0) (ns := (A'.toNat % 10 :: D).map fun d => ((48 + d : Nat) : Int)) Sx.undU8 Sx.undByte Sx.undStr F H rfl rfl rfl (Dg.fold_str _ _ (Dg.inv_last hJ hz))) (Sx.wanted_none rfl _) rfl (by decide) (fun A F => ?_)
      refine Sx.sv F (Sx.d_move F (Or.inr rfl) rfl) (Sx.wanted_none rfl _) rfl (by decide) (fun A F => ?_)
      refine Sx.nil ?_
      refine hK6 _ _ ?_
      refine wp_ret ?_
      try dsimp only [Exit.then, Exit.inBlock, Exit.jump]
      refine Sx.ret1 F Try.results22 (Sx.res_tmp (v := .string (Dg.str da.toNat)) F rfl) ⟨?_, H.below⟩
      rfl
    · skip
      refine Sx.seq (fun K7 hK7 => ?_)
      refine Sx.plain ?_
      refine Sx.sv F (Sx.d_load (i := 0) (xs := [.int .u64 ((Wd.hi A').toNat), .int .u64 ((Wd.lo A').toNat)]) rw_24 F H rfl rfl rfl rfl rfl) (Sx.wanted_none rfl _) rfl (by decide) (fun A F => ?_)
      refine Sx.sw F (Sx.d_call (vs := [.agg #[.int .u64 ((Wd.hi A').toNat), .int .u64 ((Wd.lo A').toNat)]]) (v := .tuple #[.agg #[.int .u64 ((Wd.hi (Wd.ten A')).toNat), .int .u64 ((Wd.lo (Wd.ten A')).toNat)], .int .u8 (A'.toNat % 10 : Nat)]) if_55 F H rfl rfl (wten_c A' _)) (Sx.wanted_none rfl _) rfl (by decide) (fun A w F H => ?_)
      refine Sx.sv F (Sx.d_move F (Or.inl rfl) rfl) (Sx.wanted_none rfl _) rfl (by decide) (fun A F => ?_)
      refine Sx.sv F (Sx.d_extract (v := .agg #[.int .u64 ((Wd.hi (Wd.ten A')).toNat), .int .u64 ((Wd.lo (Wd.ten A')).toNat)]) F rfl rfl rfl) (Sx.wanted_none rfl _) rfl (by decide) (fun A F => ?_)
      refine Sx.sv F (Sx.d_extract (v := .int .u8 (A'.toNat % 10 : Nat)) F rfl rfl rfl) (Sx.wanted_none rfl _) rfl (by decide) (fun A F => ?_)
      refine Sx.ss F (Sx.d_store (i := 0) (xs := [.int .u64 ((Wd.hi (Wd.ten A')).toNat), .int .u64 ((Wd.lo (Wd.ten A')).toNat)]) (us := [.int .u64 ((Wd.hi (Wd.ten A')).toNat), .int .u64 ((Wd.lo (Wd.ten A')).toNat)]) sz_24 F H rfl rfl rfl rfl rfl rfl rfl (Nat.le_of_ble_eq_true rfl) rfl) (Sx.wanted_none rfl _) rfl (fun A w F (H : Sx.Own w0 _ [(true, g1, [.int .u64 ((Wd.hi (Wd.ten A')).toNat), .int .u64 ((Wd.lo (Wd.ten A')).toNat)])] [⟨true, v, 5, 1, (Dg.cnt D), (Dg.row D)⟩]) => ?_)
      refine Sx.sv F (Sx.d_move F (Or.inr rfl) rfl) (Sx.wanted_none rfl _) rfl (by decide) (fun A F => ?_)
      refine Sx.nil ?_
      refine hK7 _ _ ?_
      refine Sx.seq (fun K8 hK8 => ?_)
      refine Sx.plain ?_
      refine Sx.sv F (Sx.d_move F (Or.inl rfl) rfl) (Sx.wanted_none rfl _) rfl (by decide) (fun A F => ?_)
      refine Sx.sv F (Sx.d_bin (v := .int .u8 (48 + A'.toNat % 10 : Nat)) F rfl rfl rfl (Sx.i_addN rfl (Sx.in_u8 _ (by omega)))) (Sx.wanted_none rfl _) rfl (by decide) (fun A F => ?_)
      refine Sx.sr (mk := fun v => v) F (Sx.d_litR (qs := #[(0, .int .u8 (48 + A'.toNat % 10 : Nat))]) (cs := #[.int .u8 (48 + A'.toNat % 10 : Nat)]) (E := 5) (z := 1) F H rfl rfl (fun _ => by kernel_rfl) rfl (by decide)) (Sx.wanted_none rfl _) rfl (by decide) (fun v3 A w F (H : Sx.Own w0 _ [(true, g1, [.int .u64 ((Wd.hi (Wd.ten A')).toNat), .int .u64 ((Wd.lo (Wd.ten A')).toNat)])] [⟨true, v3, 5, 1, 1, [.int .u8 (48 + A'.toNat % 10 : Nat)]⟩, ⟨true, v, 5, 1, (Dg.cnt D), (Dg.row D)⟩]) => ?_)
      refine Sx.sv F (Sx.d_move F (Or.inl rfl) rfl) (Sx.wanted_none rfl _) rfl (by decide) (fun A F => ?_)
      refine Sx.sr (mk := fun v => v) F (Sx.d_appendR (i := 0) (j := 1) el_39 F H rfl rfl rfl rfl rfl (Dg.row_ones _) rfl (by omega) (by decide)) (Sx.wanted_none rfl _) rfl (by decide) (fun v4 A w F (H : Sx.Own w0 _ [(true, g1, [.int .u64 ((Wd.hi (Wd.ten A')).toNat), .int .u64 ((Wd.lo (Wd.ten A')).toNat)])] [⟨true, v4, 5, 1, (1 + (Dg.cnt D)), [.int .u8 (48 + A'.toNat % 10 : Nat)] ++ (Dg.row D)⟩, ⟨true, v, 5, 1, (Dg.cnt D), (Dg.row D)⟩]) => ?_)
      refine Sx.sv F (Sx.d_move F (Or.inr rfl) rfl) (Sx.wanted_none rfl _) rfl (by decide) (fun A F => ?_)
      refine Sx.nil ?_
      refine hK8 _ _ ?_
      refine Sx.seq (fun K9 hK9 => ?_)
      refine Sx.seq (fun K10 hK10 => ?_)
      refine Sx.plain ?_
      refine Sx.sv F (Sx.d_load (i := 0) (xs := [.int .u64 ((Wd.hi (Wd.ten A')).toNat), .int .u64 ((Wd.lo (Wd.ten A')).toNat)]) rw_24 F H rfl rfl rfl rfl rfl) (Sx.wanted_none rfl _) rfl (by decide) (fun A F => ?_)
      refine Sx.sv F (Sx.d_build (qs := #[]) (v := .agg #[.int .u64 ((Wd.hi 0#128).toNat), .int .u64 ((Wd.lo 0#128).toNat)]) F rfl rfl (by kernel_rfl)) (Sx.wanted_none rfl _) rfl (by decide) (fun A F => ?_)
      refine Sx.sv F (Sx.d_bin (v := .bool true) F rfl rfl rfl (Sx.i_neV (by rw [show Wd.eqb (Wd.ten A') 0#128 = false from decide_eq_false (fun h => hz ((Wd.ten_zero A').1 h))]; rfl))) (Sx.wanted_none rfl _) rfl (by decide) (fun A F => ?_)
      refine Sx.nil ?_
      refine hK10 _ _ ?_
      refine Sx.condT F rfl ?_
      refine wp_goto ?_
      dsimp only [Exit.then, Exit.inBlock, Exit.jump]
      exact ⟨rfl, (Wd.ten A').toNat, by rw [Wd.ten_nat]; omega, Wd.ten A', A'.toNat % 10 :: D, v4, rfl, Dg.inv_step A' hJ hz, F.to ⟨rfl, rfl, trivial⟩, H.to' [0] [0] (by decide) (by decide) rfl rfl⟩
  · skip
    refine Sx.seq (fun Kl hKl => ?_)
    refine Sx.plain ?_
    refine Sx.sv F (Sx.d_move F (Or.inr rfl) rfl) (Sx.wanted_none rfl _) rfl (by decide) (fun A F => ?_)
    refine Sx.nil ?_
    refine hKl _ _ ?_
    refine Sx.seq (fun Kn hKn => ?_)
    refine Sx.plain ?_
    refine Sx.sv F (Sx.d_move F (Or.inr rfl) rfl) (Sx.wanted_none rfl _) rfl (by decide) (fun A F => ?_)
    refine Sx.nil ?_
    refine hKn _ _ ?_
    refine Sx.seq (fun Km hKm => ?_)
    refine wp_label ?_
    refine hKm _ _ ?_
    have H := Sx.Own.nilR H 5 1
    exact first _ _ _ ⟨da, [], .slice none 0 0, rfl, (List.append_nil _).symm, F.to ⟨rfl, rfl, trivial⟩, H⟩
end Go.Proofs.Ytpbdffmgendboab
