/- affine.One, At, Then, negative walked. -/
import Derived.Test.YtpbdffmgendboaaSxE
import Derived.Test.YtpbdffmgendboaaAfPlain
namespace Go.Proofs.Ytpbdffmgendboaa
open Go Go.RowKit
set_option maxRecDepth 100000 in
theorem aone_c  (w0 : World) : Calls Try.prog 26 #[] w0 fun e w' => e = .returned (.agg #[.int .u64 ((Wd.hi 1#128).toNat), .int .u64 ((Wd.lo 1#128).toNat), .int .u64 ((Wd.hi 0#128).toNat), .int .u64 ((Wd.lo 0#128).toNat)]) ∧ Below w0.heap.size w0 w' := by
  refine Sx.enter (args := []) Try.func26 rfl Try.ntmps26 (Nat.le_of_ble_eq_true rfl) (fun A F => ?_)
  have H := Sx.Own.start w0
  refine Sx.seq (fun K1 hK1 => ?_)
  refine Sx.plain ?_
  refine Sx.sb F (Sx.d_alloc H rfl [.int .u64 ((Wd.hi 0#128).toNat), .int .u64 ((Wd.lo 0#128).toNat), .int .u64 ((Wd.hi 0#128).toNat), .int .u64 ((Wd.lo 0#128).toNat)] zero_26) (Sx.wanted_none rfl _) rfl (by decide) (fun g1 A w F H => ?_)
  refine Sx.nil ?_
  refine hK1 _ _ ?_
  refine Sx.seq (fun K2 hK2 => ?_)
  refine Sx.plain ?_
  refine Sx.sw F (Sx.d_call (vs := [.int .u64 1]) (v := .agg #[.int .u64 ((Wd.hi 1#128).toNat), .int .u64 ((Wd.lo 1#128).toNat)]) if_29 F H rfl rfl (Calls.val (wofV_c 1#64 _) (by kernel_rfl) (by kernel_rfl))) (Sx.wanted_none rfl _) rfl (by decide) (fun A w F H => ?_)
  refine Sx.sv F (Sx.d_build (qs := #[(0, .agg #[.int .u64 ((Wd.hi 1#128).toNat), .int .u64 ((Wd.lo 1#128).toNat)])]) (v := .agg #[.int .u64 ((Wd.hi 1#128).toNat), .int .u64 ((Wd.lo 1#128).toNat), .int .u64 ((Wd.hi 0#128).toNat), .int .u64 ((Wd.lo 0#128).toNat)]) F rfl rfl (by kernel_rfl)) (Sx.wanted_none rfl _) rfl (by decide) (fun A F => ?_)
  refine Sx.ss F (Sx.d_store (i := 0) (xs := [.int .u64 ((Wd.hi 1#128).toNat), .int .u64 ((Wd.lo 1#128).toNat), .int .u64 ((Wd.hi 0#128).toNat), .int .u64 ((Wd.lo 0#128).toNat)]) (us := [.int .u64 ((Wd.hi 1#128).toNat), .int .u64 ((Wd.lo 1#128).toNat), .int .u64 ((Wd.hi 0#128).toNat), .int .u64 ((Wd.lo 0#128).toNat)]) sz_26 F H rfl rfl rfl rfl rfl rfl rfl (Nat.le_of_ble_eq_true rfl) rfl) (Sx.wanted_none rfl _) rfl (fun A w F (H : Sx.Own w0 _ [(true, g1, [.int .u64 ((Wd.hi 1#128).toNat), .int .u64 ((Wd.lo 1#128).toNat), .int .u64 ((Wd.hi 0#128).toNat), .int .u64 ((Wd.lo 0#128).toNat)])] []) => ?_)
  refine Sx.nil ?_
  refine hK2 _ _ ?_
  refine wp_ret ?_
  try dsimp only [Exit.then, Exit.inBlock, Exit.jump]
  refine Sx.ret1 F Try.results26 (Sx.res_row (i := 0) (xs := [.int .u64 ((Wd.hi 1#128).toNat), .int .u64 ((Wd.lo 1#128).toNat), .int .u64 ((Wd.hi 0#128).toNat), .int .u64 ((Wd.lo 0#128).toNat)]) rw_26 F H rfl rfl rfl rfl) ⟨?_, H.below⟩
  rfl
set_option maxRecDepth 100000 in
theorem aat_c (qa qc x : BitVec 128) (w0 : World) : Calls Try.prog 21 #[.agg #[.int .u64 ((Wd.hi qa).toNat), .int .u64 ((Wd.lo qa).toNat), .int .u64 ((Wd.hi qc).toNat), .int .u64 ((Wd.lo qc).toNat)], .agg #[.int .u64 ((Wd.hi x).toNat), .int .u64 ((Wd.lo x).toNat)]] w0 fun e w' => e = .returned (.agg #[.int .u64 ((Wd.hi (qa * x + qc)).toNat), .int .u64 ((Wd.lo (qa * x + qc)).toNat)]) ∧ Below w0.heap.size w0 w' := by
  refine Sx.enter (args := [.agg #[.int .u64 ((Wd.hi qa).toNat), .int .u64 ((Wd.lo qa).toNat), .int .u64 ((Wd.hi qc).toNat), .int .u64 ((Wd.lo qc).toNat)], .agg #[.int .u64 ((Wd.hi x).toNat), .int .u64 ((Wd.lo x).toNat)]]) Try.func21 rfl Try.ntmps21 (Nat.le_of_ble_eq_true rfl) (fun A F => ?_)
  have H := Sx.Own.start w0
  refine Sx.seq (fun K1 hK1 => ?_)
  refine Sx.plain ?_
  refine Sx.sb F (Sx.d_box F H rfl rfl [.int .u64 ((Wd.hi qa).toNat), .int .u64 ((Wd.lo qa).toNat), .int .u64 ((Wd.hi qc).toNat), .int .u64 ((Wd.lo qc).toNat)] rfl) (Sx.wanted_none rfl _) rfl (by decide) (fun g1 A w F H => ?_)
  refine Sx.sb F (Sx.d_box F H rfl rfl [.int .u64 ((Wd.hi x).toNat), .int .u64 ((Wd.lo x).toNat)] rfl) (Sx.wanted_none rfl _) rfl (by decide) (fun g2 A w F H => ?_)
  refine Sx.sb F (Sx.d_alloc H rfl [.int .u64 ((Wd.hi 0#128).toNat), .int .u64 ((Wd.lo 0#128).toNat)] zero_24) (Sx.wanted_none rfl _) rfl (by decide) (fun g3 A w F H => ?_)
  refine Sx.nil ?_
  refine hK1 _ _ ?_
  refine Sx.seq (fun K2 hK2 => ?_)
  have F := Sx.Fr.to F (kv' := [(0, .agg #[.int .u64 ((Wd.hi qa).toNat), .int .u64 ((Wd.lo qa).toNat), .int .u64 ((Wd.hi qc).toNat), .int .u64 ((Wd.lo qc).toNat)]), (1, .agg #[.int .u64 ((Wd.hi x).toNat), .int .u64 ((Wd.lo x).toNat)]), (2, .pointer (some ⟨g1, 0, none⟩)), (3, .pointer (some ⟨g2, 0, none⟩)), (4, .pointer (some ⟨g3, 0, none⟩))]) ⟨rfl, rfl, rfl, rfl, rfl, trivial⟩
  refine Sx.drawn F (by kernel_rfl) (by kernel_rfl) (by kernel_rfl) [some (.pointer (some ⟨g1, 0, none⟩)), some (.agg #[.int .u64 ((Wd.hi qa).toNat), .int .u64 ((Wd.lo qa).toNat)]), some (.agg #[.int .u64 ((Wd.hi x).toNat), .int .u64 ((Wd.lo x).toNat)]), some (.agg #[.int .u64 ((Wd.hi (qa * x)).toNat), .int .u64 ((Wd.lo (qa * x)).toNat)]), some (.pointer (some ⟨g1, 2, none⟩)), some (.agg #[.int .u64 ((Wd.hi qc).toNat), .int .u64 ((Wd.lo qc).toNat)]), some (.tuple #[.agg #[.int .u64 ((Wd.hi ((qa * x) + qc)).toNat), .int .u64 ((Wd.lo ((qa * x) + qc)).toNat)], .bool (Wd.over (qa * x) qc)]), some (.tuple #[.agg #[.int .u64 ((Wd.hi ((qa * x) + qc)).toNat), .int .u64 ((Wd.lo ((qa * x) + qc)).toNat)], .bool (Wd.over (qa * x) qc)]), some (.agg #[.int .u64 ((Wd.hi ((qa * x) + qc)).toNat), .int .u64 ((Wd.lo ((qa * x) + qc)).toNat)]), some (.bool (Wd.over (qa * x) qc)), none, none, some (.bool (Wd.over (qa * x) qc))] (fun L A w => ∃ g4 : Nat, (L 10 = true → A.eval (.tmp 5) = .pointer (some ⟨g4, 0, none⟩)) ∧ Sx.Own w0 w [(true, g3, [.int .u64 ((Wd.hi 0#128).toNat), .int .u64 ((Wd.lo 0#128).toNat)]), (true, g2, [.int .u64 ((Wd.hi x).toNat), .int .u64 ((Wd.lo x).toNat)]), (true, g1, [.int .u64 ((Wd.hi qa).toNat), .int .u64 ((Wd.lo qa).toNat), .int .u64 ((Wd.hi qc).toNat), .int .u64 ((Wd.lo qc).toNat)]), (L 10, g4, (cond (L 11) [.int .u64 ((Wd.hi ((qa * x) + qc)).toNat), .int .u64 ((Wd.lo ((qa * x) + qc)).toNat)] [.int .u64 ((Wd.hi 0#128).toNat), .int .u64 ((Wd.lo 0#128).toNat)]))] []) ⟨0, (fun h => by cases h), H.drew.pad [(false, 0, [.int .u64 ((Wd.hi 0#128).toNat), .int .u64 ((Wd.lo 0#128).toNat)])] rfl [] rfl⟩ ?_ ?_
  · refine ⟨?_, ?_, ?_, ?_, ?_, ?_, ?_, ?_, ?_, ?_, ?_, ?_, ?_, trivial⟩
    · show Sx.StepAt _ _ _ _ _ _ _ 0
      intro L A w up hun hd F ⟨g4, p10, H⟩
      have f11 : L 11 = false := up 11 0 rfl hun
      rw [f11] at H
      have F := Sx.Fr.to F (kv' := [(2, .pointer (some ⟨g1, 0, none⟩))]) ⟨rfl, trivial⟩
      refine Sx.step_on rfl (Sx.d_faddr (v := .pointer (some ⟨g1, 0, none⟩)) F rfl rfl (fa_26_0 _ 0 _)) ?_
      rintro xv w' ⟨hx, rfl⟩
      exact ⟨(fun cv hc => hx.trans (Option.some.inj (Option.some.inj hc))), ⟨g4, (fun h => (Sx.put_ne rfl _).trans (p10 h)), (by show Sx.Own _ _ _ _; rw [show Inv.add L 0 11 = false from f11]; exact H)⟩⟩
    · show Sx.StepAt _ _ _ _ _ _ _ 1
      intro L A w up hun hd F ⟨g4, p10, H⟩
      have f11 : L 11 = false := up 11 1 rfl hun
      rw [f11] at H
      have F := Sx.Fr.to F (kv' := [(8, .pointer (some ⟨g1, 0, none⟩))]) ⟨rfl, trivial⟩
      refine Sx.step_on rfl (Sx.d_load (i := 2) (xs := [.int .u64 ((Wd.hi qa).toNat), .int .u64 ((Wd.lo qa).toNat)]) rw_24 F H rfl rfl rfl rfl rfl) ?_
      rintro xv w' ⟨hx, rfl⟩
      exact ⟨(fun cv hc => hx.trans (Option.some.inj (Option.some.inj hc))), ⟨g4, (fun h => (Sx.put_ne rfl _).trans (p10 h)), (by show Sx.Own _ _ _ _; rw [show Inv.add L 1 11 = false from f11]; exact H)⟩⟩
    · show Sx.StepAt _ _ _ _ _ _ _ 2
      intro L A w up hun hd F ⟨g4, p10, H⟩
      have f11 : L 11 = false := up 11 2 rfl hun
      rw [f11] at H
      have F := Sx.Fr.to F (kv' := [(3, .pointer (some ⟨g2, 0, none⟩))]) ⟨rfl, trivial⟩
      refine Sx.step_on rfl (Sx.d_load (i := 1) (xs := [.int .u64 ((Wd.hi x).toNat), .int .u64 ((Wd.lo x).toNat)]) rw_24 F H rfl rfl rfl rfl rfl) ?_
      rintro xv w' ⟨hx, rfl⟩
      exact ⟨(fun cv hc => hx.trans (Option.some.inj (Option.some.inj hc))), ⟨g4, (fun h => (Sx.put_ne rfl _).trans (p10 h)), (by show Sx.Own _ _ _ _; rw [show Inv.add L 2 11 = false from f11]; exact H)⟩⟩
    · show Sx.StepAt _ _ _ _ _ _ _ 3
      intro L A w up hun hd F ⟨g4, p10, H⟩
      have f11 : L 11 = false := up 11 3 rfl hun
      rw [f11] at H
      have F := Sx.Fr.to F (kv' := [(9, .agg #[.int .u64 ((Wd.hi qa).toNat), .int .u64 ((Wd.lo qa).toNat)]), (10, .agg #[.int .u64 ((Wd.hi x).toNat), .int .u64 ((Wd.lo x).toNat)])]) ⟨rfl, rfl, trivial⟩
      refine Sx.step_on rfl (Sx.d_call (vs := [.agg #[.int .u64 ((Wd.hi qa).toNat), .int .u64 ((Wd.lo qa).toNat)], .agg #[.int .u64 ((Wd.hi x).toNat), .int .u64 ((Wd.lo x).toNat)]]) (v := .agg #[.int .u64 ((Wd.hi (qa * x)).toNat), .int .u64 ((Wd.lo (qa * x)).toNat)]) if_31 F H rfl rfl (wmul_c qa x _)) ?_
      rintro xv w' ⟨hx, H⟩
      exact ⟨(fun cv hc => hx.trans (Option.some.inj (Option.some.inj hc))), ⟨g4, (fun h => (Sx.put_ne rfl _).trans (p10 h)), (by show Sx.Own _ _ _ _; rw [show Inv.add L 3 11 = false from f11]; exact H)⟩⟩
    · show Sx.StepAt _ _ _ _ _ _ _ 4
      intro L A w up hun hd F ⟨g4, p10, H⟩
      have f11 : L 11 = false := up 11 4 rfl hun
      rw [f11] at H
      have F := Sx.Fr.to F (kv' := [(2, .pointer (some ⟨g1, 0, none⟩))]) ⟨rfl, trivial⟩
      refine Sx.step_on rfl (Sx.d_faddr (v := .pointer (some ⟨g1, 2, none⟩)) F rfl rfl (fa_26_1 _ 0 _)) ?_
      rintro xv w' ⟨hx, rfl⟩
      exact ⟨(fun cv hc => hx.trans (Option.some.inj (Option.some.inj hc))), ⟨g4, (fun h => (Sx.put_ne rfl _).trans (p10 h)), (by show Sx.Own _ _ _ _; rw [show Inv.add L 4 11 = false from f11]; exact H)⟩⟩
    · show Sx.StepAt _ _ _ _ _ _ _ 5
      intro L A w up hun hd F ⟨g4, p10, H⟩
      have f11 : L 11 = false := up 11 5 rfl hun
      rw [f11] at H
      have F := Sx.Fr.to F (kv' := [(12, .pointer (some ⟨g1, 2, none⟩))]) ⟨rfl, trivial⟩
      refine Sx.step_on rfl (Sx.d_load (i := 2) (xs := [.int .u64 ((Wd.hi qc).toNat), .int .u64 ((Wd.lo qc).toNat)]) rw_24 F H rfl rfl rfl rfl rfl) ?_
      rintro xv w' ⟨hx, rfl⟩
      exact ⟨(fun cv hc => hx.trans (Option.some.inj (Option.some.inj hc))), ⟨g4, (fun h => (Sx.put_ne rfl _).trans (p10 h)), (by show Sx.Own _ _ _ _; rw [show Inv.add L 5 11 = false from f11]; exact H)⟩⟩
    · show Sx.StepAt _ _ _ _ _ _ _ 6
      intro L A w up hun hd F ⟨g4, p10, H⟩
      have f11 : L 11 = false := up 11 6 rfl hun
      rw [f11] at H
      have F := Sx.Fr.to F (kv' := [(11, .agg #[.int .u64 ((Wd.hi (qa * x)).toNat), .int .u64 ((Wd.lo (qa * x)).toNat)]), (13, .agg #[.int .u64 ((Wd.hi qc).toNat), .int .u64 ((Wd.lo qc).toNat)])]) ⟨rfl, rfl, trivial⟩
      refine Sx.step_on rfl (Sx.d_call (vs := [.agg #[.int .u64 ((Wd.hi (qa * x)).toNat), .int .u64 ((Wd.lo (qa * x)).toNat)], .agg #[.int .u64 ((Wd.hi qc).toNat), .int .u64 ((Wd.lo qc).toNat)]]) (v := .tuple #[.agg #[.int .u64 ((Wd.hi ((qa * x) + qc)).toNat), .int .u64 ((Wd.lo ((qa * x) + qc)).toNat)], .bool (Wd.over (qa * x) qc)]) if_27 F H rfl rfl (wadd_c (qa * x) qc _)) ?_
      rintro xv w' ⟨hx, H⟩
      exact ⟨(fun cv hc => hx.trans (Option.some.inj (Option.some.inj hc))), ⟨g4, (fun h => (Sx.put_ne rfl _).trans (p10 h)), (by show Sx.Own _ _ _ _; rw [show Inv.add L 6 11 = false from f11]; exact H)⟩⟩
    · show Sx.StepAt _ _ _ _ _ _ _ 7
      intro L A w up hun hd F ⟨g4, p10, H⟩
      have f11 : L 11 = false := up 11 7 rfl hun
      rw [f11] at H
      have F := Sx.Fr.to F (kv' := [(14, .tuple #[.agg #[.int .u64 ((Wd.hi ((qa * x) + qc)).toNat), .int .u64 ((Wd.lo ((qa * x) + qc)).toNat)], .bool (Wd.over (qa * x) qc)])]) ⟨rfl, trivial⟩
      refine Sx.step_on rfl (Sx.d_move F (Or.inl rfl) rfl) ?_
      rintro xv w' ⟨hx, rfl⟩
      exact ⟨(fun cv hc => hx.trans (Option.some.inj (Option.some.inj hc))), ⟨g4, (fun h => (Sx.put_ne rfl _).trans (p10 h)), (by show Sx.Own _ _ _ _; rw [show Inv.add L 7 11 = false from f11]; exact H)⟩⟩
    · show Sx.StepAt _ _ _ _ _ _ _ 8
      intro L A w up hun hd F ⟨g4, p10, H⟩
      have f11 : L 11 = false := up 11 8 rfl hun
      rw [f11] at H
      have F := Sx.Fr.to F (kv' := [(7, .tuple #[.agg #[.int .u64 ((Wd.hi ((qa * x) + qc)).toNat), .int .u64 ((Wd.lo ((qa * x) + qc)).toNat)], .bool (Wd.over (qa * x) qc)])]) ⟨rfl, trivial⟩
      refine Sx.step_on rfl (Sx.d_extract (v := .agg #[.int .u64 ((Wd.hi ((qa * x) + qc)).toNat), .int .u64 ((Wd.lo ((qa * x) + qc)).toNat)]) F rfl rfl rfl) ?_
      rintro xv w' ⟨hx, rfl⟩
      exact ⟨(fun cv hc => hx.trans (Option.some.inj (Option.some.inj hc))), ⟨g4, (fun h => (Sx.put_ne rfl _).trans (p10 h)), (by show Sx.Own _ _ _ _; rw [show Inv.add L 8 11 = false from f11]; exact H)⟩⟩
    · show Sx.StepAt _ _ _ _ _ _ _ 9
      intro L A w up hun hd F ⟨g4, p10, H⟩
      have F := Sx.Fr.to F (kv' := [(7, .tuple #[.agg #[.int .u64 ((Wd.hi ((qa * x) + qc)).toNat), .int .u64 ((Wd.lo ((qa * x) + qc)).toNat)], .bool (Wd.over (qa * x) qc)])]) ⟨rfl, trivial⟩
      refine Sx.step_on rfl (Sx.d_extract (v := .bool (Wd.over (qa * x) qc)) F rfl rfl rfl) ?_
      rintro xv w' ⟨hx, rfl⟩
      exact ⟨(fun cv hc => hx.trans (Option.some.inj (Option.some.inj hc))), ⟨g4, (fun h => (Sx.put_ne rfl _).trans (p10 h)), H⟩⟩
    · show Sx.StepAt _ _ _ _ _ _ _ 10
      intro L A w up hun hd F ⟨g4, p10, H⟩
      have f10 : L 10 = false := hun
      have f11 : L 11 = false := up 11 10 rfl hun
      rw [f10, f11] at H
      have F := Sx.Fr.to F (kv' := []) trivial
      refine Sx.step_on rfl (Sx.d_alloc_at H rfl 3 [.int .u64 ((Wd.hi 0#128).toNat), .int .u64 ((Wd.lo 0#128).toNat)] zero_24) ?_
      rintro xv w' ⟨g', hx, H⟩
      exact ⟨(fun cv hc => by have h := Option.some.inj hc; cases h), ⟨g', (fun _ => (Sx.put_same F (by decide) _).trans hx), (by show Sx.Own _ _ _ _; rw [show Inv.add L 10 11 = false from f11]; exact H)⟩⟩
    · show Sx.StepAt _ _ _ _ _ _ _ 11
      intro L A w up hun hd F ⟨g4, p10, H⟩
      have t10 : L 10 = true := hd 10 rfl
      have f11 : L 11 = false := hun
      rw [t10, f11] at H
      have F := Sx.Fr.to F (kv' := [(15, .agg #[.int .u64 ((Wd.hi ((qa * x) + qc)).toNat), .int .u64 ((Wd.lo ((qa * x) + qc)).toNat)])]) ⟨rfl, trivial⟩
      have F := Sx.Fr.add F (p10 t10)
      refine Sx.step_on rfl (Sx.d_store (i := 3) (xs := [.int .u64 ((Wd.hi ((qa * x) + qc)).toNat), .int .u64 ((Wd.lo ((qa * x) + qc)).toNat)]) (us := [.int .u64 ((Wd.hi ((qa * x) + qc)).toNat), .int .u64 ((Wd.lo ((qa * x) + qc)).toNat)]) sz_24 F H rfl rfl rfl rfl rfl rfl rfl (Nat.le_of_ble_eq_true rfl) rfl) ?_
      intro xv w' H
      exact ⟨(fun cv hc => by have h := Option.some.inj hc; cases h), ⟨g4, p10, (by show Sx.Own _ _ _ _; rw [show Inv.add L 11 10 = true from t10]; exact H)⟩⟩
    · show Sx.StepAt _ _ _ _ _ _ _ 12
      intro L A w up hun hd F ⟨g4, p10, H⟩
      have t10 : L 10 = true := hd 10 rfl
      have t11 : L 11 = true := hd 11 rfl
      rw [t10, t11] at H
      have F := Sx.Fr.to F (kv' := [(16, .bool (Wd.over (qa * x) qc))]) ⟨rfl, trivial⟩
      have F := Sx.Fr.add F (p10 t10)
      refine Sx.step_on rfl (Sx.d_move F (Or.inr rfl) rfl) ?_
      rintro xv w' ⟨hx, rfl⟩
      exact ⟨(fun cv hc => hx.trans (Option.some.inj (Option.some.inj hc))), ⟨g4, (fun h => (Sx.put_ne rfl _).trans (p10 h)), (by show Sx.Own _ _ _ _; rw [show Inv.add L 12 10 = true from t10, show Inv.add L 12 11 = true from t11]; exact H)⟩⟩
  · intro L A w hL F ⟨g4, p10, H⟩
    have t10 : L 10 = true := hL 10 rfl
    have t11 : L 11 = true := hL 11 rfl
    rw [t10, t11] at H
    have F := Sx.Fr.add F (p10 t10)
    have F := Sx.Fr.to F (kv' := [(0, .agg #[.int .u64 ((Wd.hi qa).toNat), .int .u64 ((Wd.lo qa).toNat), .int .u64 ((Wd.hi qc).toNat), .int .u64 ((Wd.lo qc).toNat)]), (1, .agg #[.int .u64 ((Wd.hi x).toNat), .int .u64 ((Wd.lo x).toNat)]), (4, .pointer (some ⟨g3, 0, none⟩)), (5, .pointer (some ⟨g4, 0, none⟩))]) ⟨rfl, rfl, rfl, rfl, trivial⟩
    refine hK2 _ _ ?_
    refine Sx.seq (fun K3 hK3 => ?_)
    refine Sx.plain ?_
    refine Sx.sv F (Sx.d_load (i := 3) (xs := [.int .u64 ((Wd.hi ((qa * x) + qc)).toNat), .int .u64 ((Wd.lo ((qa * x) + qc)).toNat)]) rw_24 F H rfl rfl rfl rfl rfl) (Sx.wanted_none rfl _) rfl (by decide) (fun A F => ?_)
    refine Sx.ss F (Sx.d_store (i := 0) (xs := [.int .u64 ((Wd.hi ((qa * x) + qc)).toNat), .int .u64 ((Wd.lo ((qa * x) + qc)).toNat)]) (us := [.int .u64 ((Wd.hi ((qa * x) + qc)).toNat), .int .u64 ((Wd.lo ((qa * x) + qc)).toNat)]) sz_24 F H rfl rfl rfl rfl rfl rfl rfl (Nat.le_of_ble_eq_true rfl) rfl) (Sx.wanted_none rfl _) rfl (fun A w F (H : Sx.Own w0 _ [(true, g3, [.int .u64 ((Wd.hi ((qa * x) + qc)).toNat), .int .u64 ((Wd.lo ((qa * x) + qc)).toNat)]), (true, g2, [.int .u64 ((Wd.hi x).toNat), .int .u64 ((Wd.lo x).toNat)]), (true, g1, [.int .u64 ((Wd.hi qa).toNat), .int .u64 ((Wd.lo qa).toNat), .int .u64 ((Wd.hi qc).toNat), .int .u64 ((Wd.lo qc).toNat)]), (true, g4, [.int .u64 ((Wd.hi ((qa * x) + qc)).toNat), .int .u64 ((Wd.lo ((qa * x) + qc)).toNat)])] []) => ?_)
    refine Sx.nil ?_
    refine hK3 _ _ ?_
    refine wp_ret ?_
    try dsimp only [Exit.then, Exit.inBlock, Exit.jump]
    refine Sx.ret1 F Try.results21 (Sx.res_row (i := 0) (xs := [.int .u64 ((Wd.hi ((qa * x) + qc)).toNat), .int .u64 ((Wd.lo ((qa * x) + qc)).toNat)]) rw_24 F H rfl rfl rfl rfl) ⟨?_, H.below⟩
    rfl
set_option maxRecDepth 100000 in
theorem athen_c (qa qc qb qd : BitVec 128) (w0 : World) : Calls Try.prog 23 #[.agg #[.int .u64 ((Wd.hi qa).toNat), .int .u64 ((Wd.lo qa).toNat), .int .u64 ((Wd.hi qc).toNat), .int .u64 ((Wd.lo qc).toNat)], .agg #[.int .u64 ((Wd.hi qb).toNat), .int .u64 ((Wd.lo qb).toNat), .int .u64 ((Wd.hi qd).toNat), .int .u64 ((Wd.lo qd).toNat)]] w0 fun e w' => e = .returned (.agg #[.int .u64 ((Wd.hi (qb * qa)).toNat), .int .u64 ((Wd.lo (qb * qa)).toNat), .int .u64 ((Wd.hi (qb * qc + qd)).toNat), .int .u64 ((Wd.lo (qb * qc + qd)).toNat)]) ∧ Below w0.heap.size w0 w' := by
  refine Sx.enter (args := [.agg #[.int .u64 ((Wd.hi qa).toNat), .int .u64 ((Wd.lo qa).toNat), .int .u64 ((Wd.hi qc).toNat), .int .u64 ((Wd.lo qc).toNat)], .agg #[.int .u64 ((Wd.hi qb).toNat), .int .u64 ((Wd.lo qb).toNat), .int .u64 ((Wd.hi qd).toNat), .int .u64 ((Wd.lo qd).toNat)]]) Try.func23 rfl Try.ntmps23 (Nat.le_of_ble_eq_true rfl) (fun A F => ?_)
  have H := Sx.Own.start w0
  refine Sx.seq (fun K1 hK1 => ?_)
  refine Sx.plain ?_
  refine Sx.sb F (Sx.d_box F H rfl rfl [.int .u64 ((Wd.hi qa).toNat), .int .u64 ((Wd.lo qa).toNat), .int .u64 ((Wd.hi qc).toNat), .int .u64 ((Wd.lo qc).toNat)] rfl) (Sx.wanted_none rfl _) rfl (by decide) (fun g1 A w F H => ?_)
  refine Sx.sb F (Sx.d_box F H rfl rfl [.int .u64 ((Wd.hi qb).toNat), .int .u64 ((Wd.lo qb).toNat), .int .u64 ((Wd.hi qd).toNat), .int .u64 ((Wd.lo qd).toNat)] rfl) (Sx.wanted_none rfl _) rfl (by decide) (fun g2 A w F H => ?_)
  refine Sx.sb F (Sx.d_alloc H rfl [.int .u64 ((Wd.hi 0#128).toNat), .int .u64 ((Wd.lo 0#128).toNat), .int .u64 ((Wd.hi 0#128).toNat), .int .u64 ((Wd.lo 0#128).toNat)] zero_26) (Sx.wanted_none rfl _) rfl (by decide) (fun g3 A w F H => ?_)
  refine Sx.nil ?_
  refine hK1 _ _ ?_
  refine Sx.seq (fun K2 hK2 => ?_)
  have F := Sx.Fr.to F (kv' := [(0, .agg #[.int .u64 ((Wd.hi qa).toNat), .int .u64 ((Wd.lo qa).toNat), .int .u64 ((Wd.hi qc).toNat), .int .u64 ((Wd.lo qc).toNat)]), (1, .agg #[.int .u64 ((Wd.hi qb).toNat), .int .u64 ((Wd.lo qb).toNat), .int .u64 ((Wd.hi qd).toNat), .int .u64 ((Wd.lo qd).toNat)]), (2, .pointer (some ⟨g1, 0, none⟩)), (3, .pointer (some ⟨g2, 0, none⟩)), (4, .pointer (some ⟨g3, 0, none⟩))]) ⟨rfl, rfl, rfl, rfl, rfl, trivial⟩
  refine Sx.drawn F (by kernel_rfl) (by kernel_rfl) (by kernel_rfl) [some (.pointer (some ⟨g2, 0, none⟩)), some (.agg #[.int .u64 ((Wd.hi qb).toNat), .int .u64 ((Wd.lo qb).toNat)]), some (.pointer (some ⟨g1, 0, none⟩)), some (.agg #[.int .u64 ((Wd.hi qa).toNat), .int .u64 ((Wd.lo qa).toNat)]), some (.agg #[.int .u64 ((Wd.hi (qb * qa)).toNat), .int .u64 ((Wd.lo (qb * qa)).toNat)]), some (.agg #[.int .u64 ((Wd.hi qb).toNat), .int .u64 ((Wd.lo qb).toNat), .int .u64 ((Wd.hi qd).toNat), .int .u64 ((Wd.lo qd).toNat)]), some (.pointer (some ⟨g1, 2, none⟩)), some (.agg #[.int .u64 ((Wd.hi qc).toNat), .int .u64 ((Wd.lo qc).toNat)]), some (.agg #[.int .u64 ((Wd.hi (qb * qc + qd)).toNat), .int .u64 ((Wd.lo (qb * qc + qd)).toNat)]), some (.agg #[.int .u64 ((Wd.hi (qb * qa)).toNat), .int .u64 ((Wd.lo (qb * qa)).toNat), .int .u64 ((Wd.hi (qb * qc + qd)).toNat), .int .u64 ((Wd.lo (qb * qc + qd)).toNat)]), none] (fun L A w => Sx.Own w0 w [(true, g3, (cond (L 10) [.int .u64 ((Wd.hi (qb * qa)).toNat), .int .u64 ((Wd.lo (qb * qa)).toNat), .int .u64 ((Wd.hi (qb * qc + qd)).toNat), .int .u64 ((Wd.lo (qb * qc + qd)).toNat)] [.int .u64 ((Wd.hi 0#128).toNat), .int .u64 ((Wd.lo 0#128).toNat), .int .u64 ((Wd.hi 0#128).toNat), .int .u64 ((Wd.lo 0#128).toNat)])), (true, g2, [.int .u64 ((Wd.hi qb).toNat), .int .u64 ((Wd.lo qb).toNat), .int .u64 ((Wd.hi qd).toNat), .int .u64 ((Wd.lo qd).toNat)]), (true, g1, [.int .u64 ((Wd.hi qa).toNat), .int .u64 ((Wd.lo qa).toNat), .int .u64 ((Wd.hi qc).toNat), .int .u64 ((Wd.lo qc).toNat)])] []) H.drew ?_ ?_
  · refine ⟨?_, ?_, ?_, ?_, ?_, ?_, ?_, ?_, ?_, ?_, ?_, trivial⟩
    · show Sx.StepAt _ _ _ _ _ _ _ 0
      intro L A w up hun hd F H
      have f10 : L 10 = false := up 10 0 rfl hun
      rw [f10] at H
      have F := Sx.Fr.to F (kv' := [(3, .pointer (some ⟨g2, 0, none⟩))]) ⟨rfl, trivial⟩
      refine Sx.step_on rfl (Sx.d_faddr (v := .pointer (some ⟨g2, 0, none⟩)) F rfl rfl (fa_26_0 _ 0 _)) ?_
      rintro xv w' ⟨hx, rfl⟩
      exact ⟨(fun cv hc => hx.trans (Option.some.inj (Option.some.inj hc))), (by show Sx.Own _ _ _ _; rw [show Inv.add L 0 10 = false from f10]; exact H)⟩
    · show Sx.StepAt _ _ _ _ _ _ _ 1
      intro L A w up hun hd F H
      have f10 : L 10 = false := up 10 1 rfl hun
      rw [f10] at H
      have F := Sx.Fr.to F (kv' := [(5, .pointer (some ⟨g2, 0, none⟩))]) ⟨rfl, trivial⟩
      refine Sx.step_on rfl (Sx.d_load (i := 1) (xs := [.int .u64 ((Wd.hi qb).toNat), .int .u64 ((Wd.lo qb).toNat)]) rw_24 F H rfl rfl rfl rfl rfl) ?_
      rintro xv w' ⟨hx, rfl⟩
      exact ⟨(fun cv hc => hx.trans (Option.some.inj (Option.some.inj hc))), (by show Sx.Own _ _ _ _; rw [show Inv.add L 1 10 = false from f10]; exact H)⟩
    · show Sx.StepAt _ _ _ _ _ _ _ 2
      intro L A w up hun hd F H
      have f10 : L 10 = false := up 10 2 rfl hun
      rw [f10] at H
      have F := Sx.Fr.to F (kv' := [(2, .pointer (some ⟨g1, 0, none⟩))]) ⟨rfl, trivial⟩
      refine Sx.step_on rfl (Sx.d_faddr (v := .pointer (some ⟨g1, 0, none⟩)) F rfl rfl (fa_26_0 _ 0 _)) ?_
      rintro xv w' ⟨hx, rfl⟩
      exact ⟨(fun cv hc => hx.trans (Option.some.inj (Option.some.inj hc))), (by show Sx.Own _ _ _ _; rw [show Inv.add L 2 10 = false from f10]; exact H)⟩
    · show Sx.StepAt _ _ _ _ _ _ _ 3
      intro L A w up hun hd F H
      have f10 : L 10 = false := up 10 3 rfl hun
      rw [f10] at H
      have F := Sx.Fr.to F (kv' := [(7, .pointer (some ⟨g1, 0, none⟩))]) ⟨rfl, trivial⟩
      refine Sx.step_on rfl (Sx.d_load (i := 2) (xs := [.int .u64 ((Wd.hi qa).toNat), .int .u64 ((Wd.lo qa).toNat)]) rw_24 F H rfl rfl rfl rfl rfl) ?_
      rintro xv w' ⟨hx, rfl⟩
      exact ⟨(fun cv hc => hx.trans (Option.some.inj (Option.some.inj hc))), (by show Sx.Own _ _ _ _; rw [show Inv.add L 3 10 = false from f10]; exact H)⟩
    · show Sx.StepAt _ _ _ _ _ _ _ 4
      intro L A w up hun hd F H
      have f10 : L 10 = false := up 10 4 rfl hun
      rw [f10] at H
      have F := Sx.Fr.to F (kv' := [(6, .agg #[.int .u64 ((Wd.hi qb).toNat), .int .u64 ((Wd.lo qb).toNat)]), (8, .agg #[.int .u64 ((Wd.hi qa).toNat), .int .u64 ((Wd.lo qa).toNat)])]) ⟨rfl, rfl, trivial⟩
      refine Sx.step_on rfl (Sx.d_call (vs := [.agg #[.int .u64 ((Wd.hi qb).toNat), .int .u64 ((Wd.lo qb).toNat)], .agg #[.int .u64 ((Wd.hi qa).toNat), .int .u64 ((Wd.lo qa).toNat)]]) (v := .agg #[.int .u64 ((Wd.hi (qb * qa)).toNat), .int .u64 ((Wd.lo (qb * qa)).toNat)]) if_31 F H rfl rfl (wmul_c qb qa _)) ?_
      rintro xv w' ⟨hx, H⟩
      exact ⟨(fun cv hc => hx.trans (Option.some.inj (Option.some.inj hc))), (by show Sx.Own _ _ _ _; rw [show Inv.add L 4 10 = false from f10]; exact H)⟩
    · show Sx.StepAt _ _ _ _ _ _ _ 5
      intro L A w up hun hd F H
      have f10 : L 10 = false := up 10 5 rfl hun
      rw [f10] at H
      have F := Sx.Fr.to F (kv' := [(3, .pointer (some ⟨g2, 0, none⟩))]) ⟨rfl, trivial⟩
      refine Sx.step_on rfl (Sx.d_load (i := 1) (xs := [.int .u64 ((Wd.hi qb).toNat), .int .u64 ((Wd.lo qb).toNat), .int .u64 ((Wd.hi qd).toNat), .int .u64 ((Wd.lo qd).toNat)]) rw_26 F H rfl rfl rfl rfl rfl) ?_
      rintro xv w' ⟨hx, rfl⟩
      exact ⟨(fun cv hc => hx.trans (Option.some.inj (Option.some.inj hc))), (by show Sx.Own _ _ _ _; rw [show Inv.add L 5 10 = false from f10]; exact H)⟩
    · show Sx.StepAt _ _ _ _ _ _ _ 6
      intro L A w up hun hd F H
      have f10 : L 10 = false := up 10 6 rfl hun
      rw [f10] at H
      have F := Sx.Fr.to F (kv' := [(2, .pointer (some ⟨g1, 0, none⟩))]) ⟨rfl, trivial⟩
      refine Sx.step_on rfl (Sx.d_faddr (v := .pointer (some ⟨g1, 2, none⟩)) F rfl rfl (fa_26_1 _ 0 _)) ?_
      rintro xv w' ⟨hx, rfl⟩
      exact ⟨(fun cv hc => hx.trans (Option.some.inj (Option.some.inj hc))), (by show Sx.Own _ _ _ _; rw [show Inv.add L 6 10 = false from f10]; exact H)⟩
    · show Sx.StepAt _ _ _ _ _ _ _ 7
      intro L A w up hun hd F H
      have f10 : L 10 = false := up 10 7 rfl hun
      rw [f10] at H
      have F := Sx.Fr.to F (kv' := [(11, .pointer (some ⟨g1, 2, none⟩))]) ⟨rfl, trivial⟩
      refine Sx.step_on rfl (Sx.d_load (i := 2) (xs := [.int .u64 ((Wd.hi qc).toNat), .int .u64 ((Wd.lo qc).toNat)]) rw_24 F H rfl rfl rfl rfl rfl) ?_
      rintro xv w' ⟨hx, rfl⟩
      exact ⟨(fun cv hc => hx.trans (Option.some.inj (Option.some.inj hc))), (by show Sx.Own _ _ _ _; rw [show Inv.add L 7 10 = false from f10]; exact H)⟩
    · show Sx.StepAt _ _ _ _ _ _ _ 8
      intro L A w up hun hd F H
      have f10 : L 10 = false := up 10 8 rfl hun
      rw [f10] at H
      have F := Sx.Fr.to F (kv' := [(10, .agg #[.int .u64 ((Wd.hi qb).toNat), .int .u64 ((Wd.lo qb).toNat), .int .u64 ((Wd.hi qd).toNat), .int .u64 ((Wd.lo qd).toNat)]), (12, .agg #[.int .u64 ((Wd.hi qc).toNat), .int .u64 ((Wd.lo qc).toNat)])]) ⟨rfl, rfl, trivial⟩
      refine Sx.step_on rfl (Sx.d_call (vs := [.agg #[.int .u64 ((Wd.hi qb).toNat), .int .u64 ((Wd.lo qb).toNat), .int .u64 ((Wd.hi qd).toNat), .int .u64 ((Wd.lo qd).toNat)], .agg #[.int .u64 ((Wd.hi qc).toNat), .int .u64 ((Wd.lo qc).toNat)]]) (v := .agg #[.int .u64 ((Wd.hi (qb * qc + qd)).toNat), .int .u64 ((Wd.lo (qb * qc + qd)).toNat)]) if_21 F H rfl rfl (aat_c qb qd qc _)) ?_
      rintro xv w' ⟨hx, H⟩
      exact ⟨(fun cv hc => hx.trans (Option.some.inj (Option.some.inj hc))), (by show Sx.Own _ _ _ _; rw [show Inv.add L 8 10 = false from f10]; exact H)⟩
    · show Sx.StepAt _ _ _ _ _ _ _ 9
      intro L A w up hun hd F H
      have f10 : L 10 = false := up 10 9 rfl hun
      rw [f10] at H
      have F := Sx.Fr.to F (kv' := [(9, .agg #[.int .u64 ((Wd.hi (qb * qa)).toNat), .int .u64 ((Wd.lo (qb * qa)).toNat)]), (13, .agg #[.int .u64 ((Wd.hi (qb * qc + qd)).toNat), .int .u64 ((Wd.lo (qb * qc + qd)).toNat)])]) ⟨rfl, rfl, trivial⟩
      refine Sx.step_on rfl (Sx.d_build (qs := #[(0, .agg #[.int .u64 ((Wd.hi (qb * qa)).toNat), .int .u64 ((Wd.lo (qb * qa)).toNat)]), (1, .agg #[.int .u64 ((Wd.hi (qb * qc + qd)).toNat), .int .u64 ((Wd.lo (qb * qc + qd)).toNat)])]) (v := .agg #[.int .u64 ((Wd.hi (qb * qa)).toNat), .int .u64 ((Wd.lo (qb * qa)).toNat), .int .u64 ((Wd.hi (qb * qc + qd)).toNat), .int .u64 ((Wd.lo (qb * qc + qd)).toNat)]) F rfl rfl (by kernel_rfl)) ?_
      rintro xv w' ⟨hx, rfl⟩
      exact ⟨(fun cv hc => hx.trans (Option.some.inj (Option.some.inj hc))), (by show Sx.Own _ _ _ _; rw [show Inv.add L 9 10 = false from f10]; exact H)⟩
    · show Sx.StepAt _ _ _ _ _ _ _ 10
      intro L A w up hun hd F H
      have f10 : L 10 = false := hun
      rw [f10] at H
      have F := Sx.Fr.to F (kv' := [(4, .pointer (some ⟨g3, 0, none⟩)), (14, .agg #[.int .u64 ((Wd.hi (qb * qa)).toNat), .int .u64 ((Wd.lo (qb * qa)).toNat), .int .u64 ((Wd.hi (qb * qc + qd)).toNat), .int .u64 ((Wd.lo (qb * qc + qd)).toNat)])]) ⟨rfl, rfl, trivial⟩
      refine Sx.step_on rfl (Sx.d_store (i := 0) (xs := [.int .u64 ((Wd.hi (qb * qa)).toNat), .int .u64 ((Wd.lo (qb * qa)).toNat), .int .u64 ((Wd.hi (qb * qc + qd)).toNat), .int .u64 ((Wd.lo (qb * qc + qd)).toNat)]) (us := [.int .u64 ((Wd.hi (qb * qa)).toNat), .int .u64 ((Wd.lo (qb * qa)).toNat), .int .u64 ((Wd.hi (qb * qc + qd)).toNat), .int .u64 ((Wd.lo (qb * qc + qd)).toNat)]) sz_26 F H rfl rfl rfl rfl rfl rfl rfl (Nat.le_of_ble_eq_true rfl) rfl) ?_
      intro xv w' H
      exact ⟨(fun cv hc => by have h := Option.some.inj hc; cases h), H⟩
  · intro L A w hL F H
    have t10 : L 10 = true := hL 10 rfl
    rw [t10] at H
    have F := Sx.Fr.to F (kv' := [(0, .agg #[.int .u64 ((Wd.hi qa).toNat), .int .u64 ((Wd.lo qa).toNat), .int .u64 ((Wd.hi qc).toNat), .int .u64 ((Wd.lo qc).toNat)]), (1, .agg #[.int .u64 ((Wd.hi qb).toNat), .int .u64 ((Wd.lo qb).toNat), .int .u64 ((Wd.hi qd).toNat), .int .u64 ((Wd.lo qd).toNat)]), (4, .pointer (some ⟨g3, 0, none⟩))]) ⟨rfl, rfl, rfl, trivial⟩
    refine hK2 _ _ ?_
    refine wp_ret ?_
    try dsimp only [Exit.then, Exit.inBlock, Exit.jump]
    refine Sx.ret1 F Try.results23 (Sx.res_row (i := 0) (xs := [.int .u64 ((Wd.hi (qb * qa)).toNat), .int .u64 ((Wd.lo (qb * qa)).toNat), .int .u64 ((Wd.hi (qb * qc + qd)).toNat), .int .u64 ((Wd.lo (qb * qc + qd)).toNat)]) rw_26 F H rfl rfl rfl rfl) ⟨?_, H.below⟩
    rfl
set_option maxRecDepth 100000 in
theorem aneg_c (n : BitVec 128) (w0 : World) : Calls Try.prog 62 #[.agg #[.int .u64 ((Wd.hi n).toNat), .int .u64 ((Wd.lo n).toNat)]] w0 fun e w' => e = .returned (.agg #[.int .u64 ((Wd.hi (0#128 - n)).toNat), .int .u64 ((Wd.lo (0#128 - n)).toNat)]) ∧ Below w0.heap.size w0 w' := by
  refine Sx.enter (args := [.agg #[.int .u64 ((Wd.hi n).toNat), .int .u64 ((Wd.lo n).toNat)]]) Try.func62 rfl Try.ntmps62 (Nat.le_of_ble_eq_true rfl) (fun A F => ?_)
  have H := Sx.Own.start w0
  refine Sx.seq (fun K1 hK1 => ?_)
  refine Sx.plain ?_
  refine Sx.sb F (Sx.d_box F H rfl rfl [.int .u64 ((Wd.hi n).toNat), .int .u64 ((Wd.lo n).toNat)] rfl) (Sx.wanted_none rfl _) rfl (by decide) (fun g1 A w F H => ?_)
  refine Sx.sb F (Sx.d_alloc H rfl [.int .u64 ((Wd.hi 0#128).toNat), .int .u64 ((Wd.lo 0#128).toNat)] zero_24) (Sx.wanted_none rfl _) rfl (by decide) (fun g2 A w F H => ?_)
  refine Sx.nil ?_
  refine hK1 _ _ ?_
  refine Sx.seq (fun K2 hK2 => ?_)
  refine Sx.plain ?_
  refine Sx.sv F (Sx.d_build (qs := #[]) (v := .agg #[.int .u64 ((Wd.hi 0#128).toNat), .int .u64 ((Wd.lo 0#128).toNat)]) F rfl rfl (by kernel_rfl)) (Sx.wanted_none rfl _) rfl (by decide) (fun A F => ?_)
  refine Sx.sv F (Sx.d_load (i := 1) (xs := [.int .u64 ((Wd.hi n).toNat), .int .u64 ((Wd.lo n).toNat)]) rw_24 F H rfl rfl rfl rfl rfl) (Sx.wanted_none rfl _) rfl (by decide) (fun A F => ?_)
  refine Sx.sw F (Sx.d_call (vs := [.agg #[.int .u64 ((Wd.hi 0#128).toNat), .int .u64 ((Wd.lo 0#128).toNat)], .agg #[.int .u64 ((Wd.hi n).toNat), .int .u64 ((Wd.lo n).toNat)]]) (v := .tuple #[.agg #[.int .u64 ((Wd.hi (0#128 - n)).toNat), .int .u64 ((Wd.lo (0#128 - n)).toNat)], .bool (Wd.less 0#128 n)]) if_57 F H rfl rfl (wsub_c 0#128 n _)) (Sx.wanted_none rfl _) rfl (by decide) (fun A w F H => ?_)
  refine Sx.sv F (Sx.d_move F (Or.inl rfl) rfl) (Sx.wanted_none rfl _) rfl (by decide) (fun A F => ?_)
  refine Sx.sv F (Sx.d_extract (v := .agg #[.int .u64 ((Wd.hi (0#128 - n)).toNat), .int .u64 ((Wd.lo (0#128 - n)).toNat)]) F rfl rfl rfl) (Sx.wanted_none rfl _) rfl (by decide) (fun A F => ?_)
  refine Sx.sv F (Sx.d_extract (v := .bool (Wd.less 0#128 n)) F rfl rfl rfl) (Sx.wanted_none rfl _) rfl (by decide) (fun A F => ?_)
  refine Sx.sb F (Sx.d_alloc H rfl [.int .u64 ((Wd.hi 0#128).toNat), .int .u64 ((Wd.lo 0#128).toNat)] zero_24) (Sx.wanted_none rfl _) rfl (by decide) (fun g3 A w F H => ?_)
  refine Sx.ss F (Sx.d_store (i := 0) (xs := [.int .u64 ((Wd.hi (0#128 - n)).toNat), .int .u64 ((Wd.lo (0#128 - n)).toNat)]) (us := [.int .u64 ((Wd.hi (0#128 - n)).toNat), .int .u64 ((Wd.lo (0#128 - n)).toNat)]) sz_24 F H rfl rfl rfl rfl rfl rfl rfl (Nat.le_of_ble_eq_true rfl) rfl) (Sx.wanted_none rfl _) rfl (fun A w F (H : Sx.Own w0 _ [(true, g3, [.int .u64 ((Wd.hi (0#128 - n)).toNat), .int .u64 ((Wd.lo (0#128 - n)).toNat)]), (true, g2, [.int .u64 ((Wd.hi 0#128).toNat), .int .u64 ((Wd.lo 0#128).toNat)]), (true, g1, [.int .u64 ((Wd.hi n).toNat), .int .u64 ((Wd.lo n).toNat)])] []) => ?_)
  refine Sx.sv F (Sx.d_move F (Or.inr rfl) rfl) (Sx.wanted_none rfl _) rfl (by decide) (fun A F => ?_)
  refine Sx.nil ?_
  refine hK2 _ _ ?_
  refine Sx.seq (fun K3 hK3 => ?_)
  refine Sx.plain ?_
  refine Sx.sv F (Sx.d_load (i := 0) (xs := [.int .u64 ((Wd.hi (0#128 - n)).toNat), .int .u64 ((Wd.lo (0#128 - n)).toNat)]) rw_24 F H rfl rfl rfl rfl rfl) (Sx.wanted_none rfl _) rfl (by decide) (fun A F => ?_)
  refine Sx.ss F (Sx.d_store (i := 1) (xs := [.int .u64 ((Wd.hi (0#128 - n)).toNat), .int .u64 ((Wd.lo (0#128 - n)).toNat)]) (us := [.int .u64 ((Wd.hi (0#128 - n)).toNat), .int .u64 ((Wd.lo (0#128 - n)).toNat)]) sz_24 F H rfl rfl rfl rfl rfl rfl rfl (Nat.le_of_ble_eq_true rfl) rfl) (Sx.wanted_none rfl _) rfl (fun A w F (H : Sx.Own w0 _ [(true, g3, [.int .u64 ((Wd.hi (0#128 - n)).toNat), .int .u64 ((Wd.lo (0#128 - n)).toNat)]), (true, g2, [.int .u64 ((Wd.hi (0#128 - n)).toNat), .int .u64 ((Wd.lo (0#128 - n)).toNat)]), (true, g1, [.int .u64 ((Wd.hi n).toNat), .int .u64 ((Wd.lo n).toNat)])] []) => ?_)
  refine Sx.nil ?_
  refine hK3 _ _ ?_
  refine wp_ret ?_
  try dsimp only [Exit.then, Exit.inBlock, Exit.jump]
  refine Sx.ret1 F Try.results62 (Sx.res_row (i := 1) (xs := [.int .u64 ((Wd.hi (0#128 - n)).toNat), .int .u64 ((Wd.lo (0#128 - n)).toNat)]) rw_24 F H rfl rfl rfl rfl) ⟨?_, H.below⟩
  rfl
end Go.Proofs.Ytpbdffmgendboaa
