/- WideShifts walked. -/
import Derived.Test.YtpbdffmgendboabAw
import Derived.Test.YtpbdffmgendboabShPlain
namespace Go.Proofs.Ytpbdffmgendboab
open Go Go.RowKit
set_option maxHeartbeats 4000000 in
set_option maxRecDepth 100000 in
theorem wideShifts_walk (da : BitVec 128) (n m : Nat) (hn : (n : Int) < 256) (hm : (m : Int) < 256) (w0 : World) : Calls Try.prog 4 #[.agg #[.int .u64 ((Wd.hi da).toNat), .int .u64 ((Wd.lo da).toNat)], .int .u8 n, .int .u8 m] w0 fun e w' => e = .returned (.bool true) ∧ Below w0.heap.size w0 w' := by
  refine Sx.enter (args := [.agg #[.int .u64 ((Wd.hi da).toNat), .int .u64 ((Wd.lo da).toNat)], .int .u8 n, .int .u8 m]) Try.func4 rfl Try.ntmps4 (Nat.le_of_ble_eq_true rfl) (fun A F => ?_)
  have H := Sx.Own.start w0
  refine Sx.seq (fun K1 hK1 => ?_)
  refine Sx.plain ?_
  refine Sx.sb F (Sx.d_box F H rfl rfl [.int .u64 ((Wd.hi da).toNat), .int .u64 ((Wd.lo da).toNat)] rfl) (Sx.wanted_none rfl _) rfl (by decide) (fun g1 A w F H => ?_)
  refine Sx.sv F (Sx.d_move F (Or.inr rfl) rfl) (Sx.wanted_none rfl _) rfl (by decide) (fun A F => ?_)
  refine Sx.nil ?_
  refine hK1 _ _ ?_
  refine Sx.seq (fun K2 hK2 => ?_)
  refine Sx.seq (fun K3 hK3 => ?_)
  refine Sx.plain ?_
  refine Sx.sw F (Sx.d_call (vs := []) (v := .bool true) if_10 F H rfl rfl (awake01_c _)) (Sx.wanted_none rfl _) rfl (by decide) (fun A w F H => ?_)
  refine Sx.sv F (Sx.d_un (v := .bool false) F rfl rfl rfl) (Sx.wanted_none rfl _) rfl (by decide) (fun A F => ?_)
  refine Sx.nil ?_
  refine hK3 _ _ ?_
  refine Sx.condF F rfl ?_
  refine wp_skip ?_
  refine hK2 _ _ ?_
  refine Sx.seq (fun K4 hK4 => ?_)
  refine Sx.plain ?_
  refine Sx.sw F (Sx.d_call (vs := [.int .u64 1]) (v := .agg #[.int .u64 ((Wd.hi 1#128).toNat), .int .u64 ((Wd.lo 1#128).toNat)]) if_14 F H rfl rfl (Calls.val (wofV_c 1#64 _) (by kernel_rfl) (by kernel_rfl))) (Sx.wanted_none rfl _) rfl (by decide) (fun A w F H => ?_)
  refine Sx.sv F (Sx.d_move F (Or.inl rfl) rfl) (Sx.wanted_none rfl _) rfl (by decide) (fun A F => ?_)
  refine Sx.sv F (Sx.d_conv (v := .int .i64 n) F rfl rfl (Sx.c_u8_i64 n (by omega))) (Sx.wanted_none rfl _) rfl (by decide) (fun A F => ?_)
  refine Sx.sw F (Sx.d_call (vs := [.agg #[.int .u64 ((Wd.hi 1#128).toNat), .int .u64 ((Wd.lo 1#128).toNat)], .int .i64 n]) (v := .agg #[.int .u64 ((Wd.hi (1#128 <<< n)).toNat), .int .u64 ((Wd.lo (1#128 <<< n)).toNat)]) if_15 F H rfl rfl (wleftN_c 1#128 n (by omega) _)) (Sx.wanted_none rfl _) rfl (by decide) (fun A w F H => ?_)
  refine Sx.sb F (Sx.d_alloc H rfl [.int .u64 ((Wd.hi 0#128).toNat), .int .u64 ((Wd.lo 0#128).toNat)] zero_24) (Sx.wanted_none rfl _) rfl (by decide) (fun g2 A w F H => ?_)
  refine Sx.ss F (Sx.d_store (i := 0) (xs := [.int .u64 ((Wd.hi (1#128 <<< n)).toNat), .int .u64 ((Wd.lo (1#128 <<< n)).toNat)]) (us := [.int .u64 ((Wd.hi (1#128 <<< n)).toNat), .int .u64 ((Wd.lo (1#128 <<< n)).toNat)]) sz_24 F H rfl rfl rfl rfl rfl rfl rfl (Nat.le_of_ble_eq_true rfl) rfl) (Sx.wanted_none rfl _) rfl (fun A w F (H : Sx.Own w0 _ [(true, g2, [.int .u64 ((Wd.hi (1#128 <<< n)).toNat), .int .u64 ((Wd.lo (1#128 <<< n)).toNat)]), (true, g1, [.int .u64 ((Wd.hi da).toNat), .int .u64 ((Wd.lo da).toNat)])] []) => ?_)
  refine Sx.nil ?_
  refine hK4 _ _ ?_
  refine Sx.seq (fun K5 hK5 => ?_)
  have F := Sx.Fr.to F (kv' := [(0, .agg #[.int .u64 ((Wd.hi da).toNat), .int .u64 ((Wd.lo da).toNat)]), (1, .int .u8 n), (2, .int .u8 m), (3, .pointer (some ⟨g1, 0, none⟩)), (6, .bool false), (10, .bool true), (11, .bool false), (12, .agg #[.int .u64 ((Wd.hi 1#128).toNat), .int .u64 ((Wd.lo 1#128).toNat)]), (13, .int .u8 n), (14, .int .i64 n), (15, .agg #[.int .u64 ((Wd.hi (1#128 <<< n)).toNat), .int .u64 ((Wd.lo (1#128 <<< n)).toNat)]), (7, .pointer (some ⟨g2, 0, none⟩))]) ⟨rfl, rfl, rfl, rfl, rfl, rfl, rfl, rfl, rfl, rfl, rfl, rfl, trivial⟩
  refine Sx.drawn F (by kernel_rfl) (by kernel_rfl) (by kernel_rfl) [some (.agg #[.int .u64 ((Wd.hi da).toNat), .int .u64 ((Wd.lo da).toNat)]), some (.agg #[.int .u64 ((Wd.hi da).toNat), .int .u64 ((Wd.lo da).toNat)]), some (.int .u8 n), some (.int .i64 n), some (.agg #[.int .u64 ((Wd.hi (da >>> n)).toNat), .int .u64 ((Wd.lo (da >>> n)).toNat)]), some (.int .u8 n), some (.int .i64 n), some (.agg #[.int .u64 ((Wd.hi ((da >>> n) <<< n)).toNat), .int .u64 ((Wd.lo ((da >>> n) <<< n)).toNat)]), some (.tuple #[.agg #[.int .u64 ((Wd.hi (da - ((da >>> n) <<< n))).toNat), .int .u64 ((Wd.lo (da - ((da >>> n) <<< n))).toNat)], .bool (Wd.less da ((da >>> n) <<< n))]), some (.tuple #[.agg #[.int .u64 ((Wd.hi (da - ((da >>> n) <<< n))).toNat), .int .u64 ((Wd.lo (da - ((da >>> n) <<< n))).toNat)], .bool (Wd.less da ((da >>> n) <<< n))]), some (.agg #[.int .u64 ((Wd.hi (da - ((da >>> n) <<< n))).toNat), .int .u64 ((Wd.lo (da - ((da >>> n) <<< n))).toNat)]), some (.bool (Wd.less da ((da >>> n) <<< n))), none, none, some (.bool (Wd.less da ((da >>> n) <<< n)))] (fun L A w => ∃ g3 : Nat, (L 12 = true → A.eval (.tmp 8) = .pointer (some ⟨g3, 0, none⟩)) ∧ Sx.Own w0 w [(true, g2, [.int .u64 ((Wd.hi (1#128 <<< n)).toNat), .int .u64 ((Wd.lo (1#128 <<< n)).toNat)]), (true, g1, [.int .u64 ((Wd.hi da).toNat), .int .u64 ((Wd.lo da).toNat)]), (L 12, g3, (cond (L 13) [.int .u64 ((Wd.hi (da - ((da >>> n) <<< n))).toNat), .int .u64 ((Wd.lo (da - ((da >>> n) <<< n))).toNat)] [.int .u64 ((Wd.hi 0#128).toNat), .int .u64 ((Wd.lo 0#128).toNat)]))] []) ⟨0, (fun h => by cases h), H.drew.pad [(false, 0, [.int .u64 ((Wd.hi 0#128).toNat), .int .u64 ((Wd.lo 0#128).toNat)])] rfl [] rfl⟩ ?_ ?_
  · refine ⟨?_, ?_, ?_, ?_, ?_, ?_, ?_, ?_, ?_, ?_, ?_, ?_, ?_, ?_, ?_, trivial⟩
    · show Sx.StepAt _ _ _ _ _ _ _ 0
      intro L A w up hun hd F ⟨g3, p12, H⟩
      have f13 : L 13 = false := up 13 0 rfl hun
      rw [f13] at H
      have F := Sx.Fr.to F (kv' := [(3, .pointer (some ⟨g1, 0, none⟩))]) ⟨rfl, trivial⟩
      refine Sx.step_on rfl (Sx.d_load (i := 1) (xs := [.int .u64 ((Wd.hi da).toNat), .int .u64 ((Wd.lo da).toNat)]) rw_24 F H rfl rfl rfl rfl rfl) ?_
      rintro xv w' ⟨hx, rfl⟩
      exact ⟨(fun cv hc => hx.trans (Option.some.inj (Option.some.inj hc))), ⟨g3, (fun h => (Sx.put_ne rfl _).trans (p12 h)), (by show Sx.Own _ _ _ _; rw [show Inv.add L 0 13 = false from f13]; exact H)⟩⟩
    · show Sx.StepAt _ _ _ _ _ _ _ 1
      intro L A w up hun hd F ⟨g3, p12, H⟩
      have f13 : L 13 = false := up 13 1 rfl hun
      rw [f13] at H
      have F := Sx.Fr.to F (kv' := [(3, .pointer (some ⟨g1, 0, none⟩))]) ⟨rfl, trivial⟩
      refine Sx.step_on rfl (Sx.d_load (i := 1) (xs := [.int .u64 ((Wd.hi da).toNat), .int .u64 ((Wd.lo da).toNat)]) rw_24 F H rfl rfl rfl rfl rfl) ?_
      rintro xv w' ⟨hx, rfl⟩
      exact ⟨(fun cv hc => hx.trans (Option.some.inj (Option.some.inj hc))), ⟨g3, (fun h => (Sx.put_ne rfl _).trans (p12 h)), (by show Sx.Own _ _ _ _; rw [show Inv.add L 1 13 = false from f13]; exact H)⟩⟩
    · show Sx.StepAt _ _ _ _ _ _ _ 2
      intro L A w up hun hd F ⟨g3, p12, H⟩
      have f13 : L 13 = false := up 13 2 rfl hun
      rw [f13] at H
      have F := Sx.Fr.to F (kv' := [(1, .int .u8 n)]) ⟨rfl, trivial⟩
      refine Sx.step_on rfl (Sx.d_move F (Or.inl rfl) rfl) ?_
      rintro xv w' ⟨hx, rfl⟩
      exact ⟨(fun cv hc => hx.trans (Option.some.inj (Option.some.inj hc))), ⟨g3, (fun h => (Sx.put_ne rfl _).trans (p12 h)), (by show Sx.Own _ _ _ _; rw [show Inv.add L 2 13 = false from f13]; exact H)⟩⟩
    · show Sx.StepAt _ _ _ _ _ _ _ 3
      intro L A w up hun hd F ⟨g3, p12, H⟩
      have f13 : L 13 = false := up 13 3 rfl hun
      rw [f13] at H
      have F := Sx.Fr.to F (kv' := [(19, .int .u8 n)]) ⟨rfl, trivial⟩
      refine Sx.step_on rfl (Sx.d_conv (v := .int .i64 n) F rfl rfl (Sx.c_u8_i64 n (by omega))) ?_
      rintro xv w' ⟨hx, rfl⟩
      exact ⟨(fun cv hc => hx.trans (Option.some.inj (Option.some.inj hc))), ⟨g3, (fun h => (Sx.put_ne rfl _).trans (p12 h)), (by show Sx.Own _ _ _ _; rw [show Inv.add L 3 13 = false from f13]; exact H)⟩⟩
    · show Sx.StepAt _ _ _ _ _ _ _ 4
      intro L A w up hun hd F ⟨g3, p12, H⟩
      have f13 : L 13 = false := up 13 4 rfl hun
      rw [f13] at H
      have F := Sx.Fr.to F (kv' := [(18, .agg #[.int .u64 ((Wd.hi da).toNat), .int .u64 ((Wd.lo da).toNat)]), (20, .int .i64 n)]) ⟨rfl, rfl, trivial⟩
      refine Sx.step_on rfl (Sx.d_call (vs := [.agg #[.int .u64 ((Wd.hi da).toNat), .int .u64 ((Wd.lo da).toNat)], .int .i64 n]) (v := .agg #[.int .u64 ((Wd.hi (da >>> n)).toNat), .int .u64 ((Wd.lo (da >>> n)).toNat)]) if_16 F H rfl rfl (wrightN_c da n (by omega) _)) ?_
      rintro xv w' ⟨hx, H⟩
      exact ⟨(fun cv hc => hx.trans (Option.some.inj (Option.some.inj hc))), ⟨g3, (fun h => (Sx.put_ne rfl _).trans (p12 h)), (by show Sx.Own _ _ _ _; rw [show Inv.add L 4 13 = false from f13]; exact H)⟩⟩
    · show Sx.StepAt _ _ _ _ _ _ _ 5
      intro L A w up hun hd F ⟨g3, p12, H⟩
      have f13 : L 13 = false := up 13 5 rfl hun
      rw [f13] at H
      have F := Sx.Fr.to F (kv' := [(1, .int .u8 n)]) ⟨rfl, trivial⟩
      refine Sx.step_on rfl (Sx.d_move F (Or.inl rfl) rfl) ?_
      rintro xv w' ⟨hx, rfl⟩
      exact ⟨(fun cv hc => hx.trans (Option.some.inj (Option.some.inj hc))), ⟨g3, (fun h => (Sx.put_ne rfl _).trans (p12 h)), (by show Sx.Own _ _ _ _; rw [show Inv.add L 5 13 = false from f13]; exact H)⟩⟩
    · show Sx.StepAt _ _ _ _ _ _ _ 6
      intro L A w up hun hd F ⟨g3, p12, H⟩
      have f13 : L 13 = false := up 13 6 rfl hun
      rw [f13] at H
      have F := Sx.Fr.to F (kv' := [(22, .int .u8 n)]) ⟨rfl, trivial⟩
      refine Sx.step_on rfl (Sx.d_conv (v := .int .i64 n) F rfl rfl (Sx.c_u8_i64 n (by omega))) ?_
      rintro xv w' ⟨hx, rfl⟩
      exact ⟨(fun cv hc => hx.trans (Option.some.inj (Option.some.inj hc))), ⟨g3, (fun h => (Sx.put_ne rfl _).trans (p12 h)), (by show Sx.Own _ _ _ _; rw [show Inv.add L 6 13 = false from f13]; exact H)⟩⟩
    · show Sx.StepAt _ _ _ _ _ _ _ 7
      intro L A w up hun hd F ⟨g3, p12, H⟩
      have f13 : L 13 = false := up 13 7 rfl hun
      rw [f13] at H
      have F := Sx.Fr.to F (kv' := [(21, .agg #[.int .u64 ((Wd.hi (da >>> n)).toNat), .int .u64 ((Wd.lo (da >>> n)).toNat)]), (23, .int .i64 n)]) ⟨rfl, rfl, trivial⟩
      refine Sx.step_on rfl (Sx.d_call (vs := [.agg #[.int .u64 ((Wd.hi (da >>> n)).toNat), .int .u64 ((Wd.lo (da >>> n)).toNat)], .int .i64 n]) (v := .agg #[.int .u64 ((Wd.hi ((da >>> n) <<< n)).toNat), .int .u64 ((Wd.lo ((da >>> n) <<< n)).toNat)]) if_15 F H rfl rfl (wleftN_c (da >>> n) n (by omega) _)) ?_
      rintro xv w' ⟨hx, H⟩
      exact ⟨(fun cv hc => hx.trans (Option.some.inj (Option.some.inj hc))), ⟨g3, (fun h => (Sx.put_ne rfl _).trans (p12 h)), (by show Sx.Own _ _ _ _; rw [show Inv.add L 7 13 = false from f13]; exact H)⟩⟩
    · show Sx.StepAt _ _ _ _ _ _ _ 8
      intro L A w up hun hd F ⟨g3, p12, H⟩
      have f13 : L 13 = false := up 13 8 rfl hun
      rw [f13] at H
      have F := Sx.Fr.to F (kv' := [(17, .agg #[.int .u64 ((Wd.hi da).toNat), .int .u64 ((Wd.lo da).toNat)]), (24, .agg #[.int .u64 ((Wd.hi ((da >>> n) <<< n)).toNat), .int .u64 ((Wd.lo ((da >>> n) <<< n)).toNat)])]) ⟨rfl, rfl, trivial⟩
      refine Sx.step_on rfl (Sx.d_call (vs := [.agg #[.int .u64 ((Wd.hi da).toNat), .int .u64 ((Wd.lo da).toNat)], .agg #[.int .u64 ((Wd.hi ((da >>> n) <<< n)).toNat), .int .u64 ((Wd.lo ((da >>> n) <<< n)).toNat)]]) (v := .tuple #[.agg #[.int .u64 ((Wd.hi (da - ((da >>> n) <<< n))).toNat), .int .u64 ((Wd.lo (da - ((da >>> n) <<< n))).toNat)], .bool (Wd.less da ((da >>> n) <<< n))]) if_12 F H rfl rfl (wsub_c da ((da >>> n) <<< n) _)) ?_
      rintro xv w' ⟨hx, H⟩
      exact ⟨(fun cv hc => hx.trans (Option.some.inj (Option.some.inj hc))), ⟨g3, (fun h => (Sx.put_ne rfl _).trans (p12 h)), (by show Sx.Own _ _ _ _; rw [show Inv.add L 8 13 = false from f13]; exact H)⟩⟩
    · show Sx.StepAt _ _ _ _ _ _ _ 9
      intro L A w up hun hd F ⟨g3, p12, H⟩
      have f13 : L 13 = false := up 13 9 rfl hun
      rw [f13] at H
      have F := Sx.Fr.to F (kv' := [(25, .tuple #[.agg #[.int .u64 ((Wd.hi (da - ((da >>> n) <<< n))).toNat), .int .u64 ((Wd.lo (da - ((da >>> n) <<< n))).toNat)], .bool (Wd.less da ((da >>> n) <<< n))])]) ⟨rfl, trivial⟩
      refine Sx.step_on rfl (Sx.d_move F (Or.inl rfl) rfl) ?_
      rintro xv w' ⟨hx, rfl⟩
      exact ⟨(fun cv hc => hx.trans (Option.some.inj (Option.some.inj hc))), ⟨g3, (fun h => (Sx.put_ne rfl _).trans (p12 h)), (by show Sx.Own _ _ _ _; rw [show Inv.add L 9 13 = false from f13]; exact H)⟩⟩
    · show Sx.StepAt _ _ _ _ _ _ _ 10
      intro L A w up hun hd F ⟨g3, p12, H⟩
      have f13 : L 13 = false := up 13 10 rfl hun
      rw [f13] at H
      have F := Sx.Fr.to F (kv' := [(16, .tuple #[.agg #[.int .u64 ((Wd.hi (da - ((da >>> n) <<< n))).toNat), .int .u64 ((Wd.lo (da - ((da >>> n) <<< n))).toNat)], .bool (Wd.less da ((da >>> n) <<< n))])]) ⟨rfl, trivial⟩
      refine Sx.step_on rfl (Sx.d_extract (v := .agg #[.int .u64 ((Wd.hi (da - ((da >>> n) <<< n))).toNat), .int .u64 ((Wd.lo (da - ((da >>> n) <<< n))).toNat)]) F rfl rfl rfl) ?_
      rintro xv w' ⟨hx, rfl⟩
      exact ⟨(fun cv hc => hx.trans (Option.some.inj (Option.some.inj hc))), ⟨g3, (fun h => (Sx.put_ne rfl _).trans (p12 h)), (by show Sx.Own _ _ _ _; rw [show Inv.add L 10 13 = false from f13]; exact H)⟩⟩
    · show Sx.StepAt _ _ _ _ _ _ _ 11
      intro L A w up hun hd F ⟨g3, p12, H⟩
      have F := Sx.Fr.to F (kv' := [(16, .tuple #[.agg #[.int .u64 ((Wd.hi (da - ((da >>> n) <<< n))).toNat), .int .u64 ((Wd.lo (da - ((da >>> n) <<< n))).toNat)], .bool (Wd.less da ((da >>> n) <<< n))])]) ⟨rfl, trivial⟩
      refine Sx.step_on rfl (Sx.d_extract (v := .bool (Wd.less da ((da >>> n) <<< n))) F rfl rfl rfl) ?_
      rintro xv w' ⟨hx, rfl⟩
      exact ⟨(fun cv hc => hx.trans (Option.some.inj (Option.some.inj hc))), ⟨g3, (fun h => (Sx.put_ne rfl _).trans (p12 h)), H⟩⟩
    · show Sx.StepAt _ _ _ _ _ _ _ 12
      intro L A w up hun hd F ⟨g3, p12, H⟩
      have f12 : L 12 = false := hun
      have f13 : L 13 = false := up 13 12 rfl hun
      rw [f12, f13] at H
      have F := Sx.Fr.to F (kv' := []) trivial
      refine Sx.step_on rfl (Sx.d_alloc_at H rfl 2 [.int .u64 ((Wd.hi 0#128).toNat), .int .u64 ((Wd.lo 0#128).toNat)] zero_24) ?_
      rintro xv w' ⟨g', hx, H⟩
      exact ⟨(fun cv hc => by have h := Option.some.inj hc; cases h), ⟨g', (fun _ => (Sx.put_same F (by decide) _).trans hx), (by show Sx.Own _ _ _ _; rw [show Inv.add L 12 13 = false from f13]; exact H)⟩⟩
    · show Sx.StepAt _ _ _ _ _ _ _ 13
      intro L A w up hun hd F ⟨g3, p12, H⟩
      have t12 : L 12 = true := hd 12 rfl
      have f13 : L 13 = false := hun
      rw [t12, f13] at H
      have F := Sx.Fr.to F (kv' := [(26, .agg #[.int .u64 ((Wd.hi (da - ((da >>> n) <<< n))).toNat), .int .u64 ((Wd.lo (da - ((da >>> n) <<< n))).toNat)])]) ⟨rfl, trivial⟩
      have F := Sx.Fr.add F (p12 t12)
      refine Sx.step_on rfl (Sx.d_store (i := 2) (xs := [.int .u64 ((Wd.hi (da - ((da >>> n) <<< n))).toNat), .int .u64 ((Wd.lo (da - ((da >>> n) <<< n))).toNat)]) (us := [.int .u64 ((Wd.hi (da - ((da >>> n) <<< n))).toNat), .int .u64 ((Wd.lo (da - ((da >>> n) <<< n))).toNat)]) sz_24 F H rfl rfl rfl rfl rfl rfl rfl (Nat.le_of_ble_eq_true rfl) rfl) ?_
      intro xv w' H
      exact ⟨(fun cv hc => by have h := Option.some.inj hc; cases h), ⟨g3, p12, (by show Sx.Own _ _ _ _; rw [show Inv.add L 13 12 = true from t12]; exact H)⟩⟩
    · show Sx.StepAt _ _ _ _ _ _ _ 14
      intro L A w up hun hd F ⟨g3, p12, H⟩
      have t12 : L 12 = true := hd 12 rfl
      have t13 : L 13 = true := hd 13 rfl
      rw [t12, t13] at H
      have F := Sx.Fr.to F (kv' := [(27, .bool (Wd.less da ((da >>> n) <<< n)))]) ⟨rfl, trivial⟩
      have F := Sx.Fr.add F (p12 t12)
      refine Sx.step_on rfl (Sx.d_move F (Or.inr rfl) rfl) ?_
      rintro xv w' ⟨hx, rfl⟩
      exact ⟨(fun cv hc => hx.trans (Option.some.inj (Option.some.inj hc))), ⟨g3, (fun h => (Sx.put_ne rfl _).trans (p12 h)), (by show Sx.Own _ _ _ _; rw [show Inv.add L 14 12 = true from t12, show Inv.add L 14 13 = true from t13]; exact H)⟩⟩
  · intro L A w hL F ⟨g3, p12, H⟩
    have t12 : L 12 = true := hL 12 rfl
    have t13 : L 13 = true := hL 13 rfl
    rw [t12, t13] at H
    have F := Sx.Fr.add F (p12 t12)
    have F := Sx.Fr.to F (kv' := [(1, .int .u8 n), (2, .int .u8 m), (3, .pointer (some ⟨g1, 0, none⟩)), (6, .bool false), (7, .pointer (some ⟨g2, 0, none⟩)), (8, .pointer (some ⟨g3, 0, none⟩))]) ⟨rfl, rfl, rfl, rfl, rfl, rfl, trivial⟩
    refine hK5 _ _ ?_
    refine Sx.seq (fun K6 hK6 => ?_)
    refine Sx.seq (fun K7 hK7 => ?_)
    have F := Sx.Fr.to F (kv' := [(1, .int .u8 n), (2, .int .u8 m), (3, .pointer (some ⟨g1, 0, none⟩)), (6, .bool false), (7, .pointer (some ⟨g2, 0, none⟩)), (8, .pointer (some ⟨g3, 0, none⟩))]) ⟨rfl, rfl, rfl, rfl, rfl, rfl, trivial⟩
    refine Sx.drawn F (by kernel_rfl) (by kernel_rfl) (by kernel_rfl) [some (.agg #[.int .u64 ((Wd.hi da).toNat), .int .u64 ((Wd.lo da).toNat)]), some (.int .u8 n), some (.int .i64 n), some (.agg #[.int .u64 ((Wd.hi (da <<< n)).toNat), .int .u64 ((Wd.lo (da <<< n)).toNat)]), some (.agg #[.int .u64 ((Wd.hi da).toNat), .int .u64 ((Wd.lo da).toNat)]), some (.agg #[.int .u64 ((Wd.hi (1#128 <<< n)).toNat), .int .u64 ((Wd.lo (1#128 <<< n)).toNat)]), some (.agg #[.int .u64 ((Wd.hi (da * (1#128 <<< n))).toNat), .int .u64 ((Wd.lo (da * (1#128 <<< n))).toNat)]), some (.bool false), some (.bool false), some (.agg #[.int .u64 ((Wd.hi da).toNat), .int .u64 ((Wd.lo da).toNat)]), some (.int .u8 n), some (.int .i64 n), some (.agg #[.int .u64 ((Wd.hi (da <<< n)).toNat), .int .u64 ((Wd.lo (da <<< n)).toNat)]), some (.int .u8 m), some (.int .i64 m), some (.agg #[.int .u64 ((Wd.hi ((da <<< n) <<< m)).toNat), .int .u64 ((Wd.lo ((da <<< n) <<< m)).toNat)]), some (.agg #[.int .u64 ((Wd.hi da).toNat), .int .u64 ((Wd.lo da).toNat)]), some (.int .u8 n), some (.int .i64 n), some (.int .u8 m), some (.int .i64 m), some (.int .i64 (n + m : Nat)), some (.agg #[.int .u64 ((Wd.hi (da <<< (n + m))).toNat), .int .u64 ((Wd.lo (da <<< (n + m))).toNat)]), some (.bool false), some (.bool false), some (.bool false), some (.agg #[.int .u64 ((Wd.hi da).toNat), .int .u64 ((Wd.lo da).toNat)]), some (.int .u8 n), some (.int .i64 n), some (.agg #[.int .u64 ((Wd.hi (da >>> n)).toNat), .int .u64 ((Wd.lo (da >>> n)).toNat)]), some (.int .u8 m), some (.int .i64 m), some (.agg #[.int .u64 ((Wd.hi ((da >>> n) >>> m)).toNat), .int .u64 ((Wd.lo ((da >>> n) >>> m)).toNat)]), some (.agg #[.int .u64 ((Wd.hi da).toNat), .int .u64 ((Wd.lo da).toNat)]), some (.int .u8 n), some (.int .i64 n), some (.int .u8 m), some (.int .i64 m), some (.int .i64 (n + m : Nat)), some (.agg #[.int .u64 ((Wd.hi (da >>> (n + m))).toNat), .int .u64 ((Wd.lo (da >>> (n + m))).toNat)]), some (.bool false), some (.bool false)] (fun L A w => Sx.Own w0 w [(true, g2, [.int .u64 ((Wd.hi (1#128 <<< n)).toNat), .int .u64 ((Wd.lo (1#128 <<< n)).toNat)]), (true, g1, [.int .u64 ((Wd.hi da).toNat), .int .u64 ((Wd.lo da).toNat)]), (true, g3, [.int .u64 ((Wd.hi (da - ((da >>> n) <<< n))).toNat), .int .u64 ((Wd.lo (da - ((da >>> n) <<< n))).toNat)])] []) H.drew ?_ ?_
    · refine ⟨?_, ?_, ?_, ?_, ?_, ?_, ?_, ?_, ?_, ?_, ?_, ?_, ?_, ?_, ?_, ?_, ?_, ?_, ?_, ?_, ?_, ?_, ?_, ?_, ?_, ?_, ?_, ?_, ?_, ?_, ?_, ?_, ?_, ?_, ?_, ?_, ?_, ?_, ?_, ?_, ?_, ?_, trivial⟩
      · show Sx.StepAt _ _ _ _ _ _ _ 0
        intro L A w up hun hd F H
        have F := Sx.Fr.to F (kv' := [(3, .pointer (some ⟨g1, 0, none⟩))]) ⟨rfl, trivial⟩
        refine Sx.step_on rfl (Sx.d_load (i := 1) (xs := [.int .u64 ((Wd.hi da).toNat), .int .u64 ((Wd.lo da).toNat)]) rw_24 F H rfl rfl rfl rfl rfl) ?_
        rintro xv w' ⟨hx, rfl⟩
        exact ⟨(fun cv hc => hx.trans (Option.some.inj (Option.some.inj hc))), H⟩
      · show Sx.StepAt _ _ _ _ _ _ _ 1
        intro L A w up hun hd F H
        have F := Sx.Fr.to F (kv' := [(1, .int .u8 n)]) ⟨rfl, trivial⟩
        refine Sx.step_on rfl (Sx.d_move F (Or.inl rfl) rfl) ?_
        rintro xv w' ⟨hx, rfl⟩
        exact ⟨(fun cv hc => hx.trans (Option.some.inj (Option.some.inj hc))), H⟩
      · show Sx.StepAt _ _ _ _ _ _ _ 2
        intro L A w up hun hd F H
        have F := Sx.Fr.to F (kv' := [(29, .int .u8 n)]) ⟨rfl, trivial⟩
        refine Sx.step_on rfl (Sx.d_conv (v := .int .i64 n) F rfl rfl (Sx.c_u8_i64 n (by omega))) ?_
        rintro xv w' ⟨hx, rfl⟩
        exact ⟨(fun cv hc => hx.trans (Option.some.inj (Option.some.inj hc))), H⟩
      · show Sx.StepAt _ _ _ _ _ _ _ 3
        intro L A w up hun hd F H
        have F := Sx.Fr.to F (kv' := [(28, .agg #[.int .u64 ((Wd.hi da).toNat), .int .u64 ((Wd.lo da).toNat)]), (30, .int .i64 n)]) ⟨rfl, rfl, trivial⟩
        refine Sx.step_on rfl (Sx.d_call (vs := [.agg #[.int .u64 ((Wd.hi da).toNat), .int .u64 ((Wd.lo da).toNat)], .int .i64 n]) (v := .agg #[.int .u64 ((Wd.hi (da <<< n)).toNat), .int .u64 ((Wd.lo (da <<< n)).toNat)]) if_15 F H rfl rfl (wleftN_c da n (by omega) _)) ?_
        rintro xv w' ⟨hx, H⟩
        exact ⟨(fun cv hc => hx.trans (Option.some.inj (Option.some.inj hc))), H⟩
      · show Sx.StepAt _ _ _ _ _ _ _ 4
        intro L A w up hun hd F H
        have F := Sx.Fr.to F (kv' := [(3, .pointer (some ⟨g1, 0, none⟩))]) ⟨rfl, trivial⟩
        refine Sx.step_on rfl (Sx.d_load (i := 1) (xs := [.int .u64 ((Wd.hi da).toNat), .int .u64 ((Wd.lo da).toNat)]) rw_24 F H rfl rfl rfl rfl rfl) ?_
        rintro xv w' ⟨hx, rfl⟩
        exact ⟨(fun cv hc => hx.trans (Option.some.inj (Option.some.inj hc))), H⟩
      · show Sx.StepAt _ _ _ _ _ _ _ 5
        intro L A w up hun hd F H
        have F := Sx.Fr.to F (kv' := [(7, .pointer (some ⟨g2, 0, none⟩))]) ⟨rfl, trivial⟩
        refine Sx.step_on rfl (Sx.d_load (i := 0) (xs := [.int .u64 ((Wd.hi (1#128 <<< n)).toNat), .int .u64 ((Wd.lo (1#128 <<< n)).toNat)]) rw_24 F H rfl rfl rfl rfl rfl) ?_
        rintro xv w' ⟨hx, rfl⟩
        exact ⟨(fun cv hc => hx.trans (Option.some.inj (Option.some.inj hc))), H⟩
      · show Sx.StepAt _ _ _ _ _ _ _ 6
        intro L A w up hun hd F H
        have F := Sx.Fr.to F (kv' := [(32, .agg #[.int .u64 ((Wd.hi da).toNat), .int .u64 ((Wd.lo da).toNat)]), (33, .agg #[.int .u64 ((Wd.hi (1#128 <<< n)).toNat), .int .u64 ((Wd.lo (1#128 <<< n)).toNat)])]) ⟨rfl, rfl, trivial⟩
        refine Sx.step_on rfl (Sx.d_call (vs := [.agg #[.int .u64 ((Wd.hi da).toNat), .int .u64 ((Wd.lo da).toNat)], .agg #[.int .u64 ((Wd.hi (1#128 <<< n)).toNat), .int .u64 ((Wd.lo (1#128 <<< n)).toNat)]]) (v := .agg #[.int .u64 ((Wd.hi (da * (1#128 <<< n))).toNat), .int .u64 ((Wd.lo (da * (1#128 <<< n))).toNat)]) if_13 F H rfl rfl (wmul_c da (1#128 <<< n) _)) ?_
        rintro xv w' ⟨hx, H⟩
        exact ⟨(fun cv hc => hx.trans (Option.some.inj (Option.some.inj hc))), H⟩
      · show Sx.StepAt _ _ _ _ _ _ _ 7
        intro L A w up hun hd F H
        have F := Sx.Fr.to F (kv' := [(31, .agg #[.int .u64 ((Wd.hi (da <<< n)).toNat), .int .u64 ((Wd.lo (da <<< n)).toNat)]), (34, .agg #[.int .u64 ((Wd.hi (da * (1#128 <<< n))).toNat), .int .u64 ((Wd.lo (da * (1#128 <<< n))).toNat)])]) ⟨rfl, rfl, trivial⟩
        refine Sx.step_on rfl (Sx.d_bin (v := .bool false) F rfl rfl rfl (Sx.i_neV (by rw [show Wd.eqb (da <<< n) (da * (1#128 <<< n)) = true from decide_eq_true (Wd.shl_mul da n)] <;> rfl))) ?_
        rintro xv w' ⟨hx, rfl⟩
        exact ⟨(fun cv hc => hx.trans (Option.some.inj (Option.some.inj hc))), H⟩
      · show Sx.StepAt _ _ _ _ _ _ _ 8
        intro L A w up hun hd F H
        have F := Sx.Fr.to F (kv' := [(35, .bool false)]) ⟨rfl, trivial⟩
        refine Sx.step_on rfl (Sx.d_move F (Or.inl rfl) rfl) ?_
        rintro xv w' ⟨hx, rfl⟩
        exact ⟨(fun cv hc => hx.trans (Option.some.inj (Option.some.inj hc))), H⟩
      · show Sx.StepAt _ _ _ _ _ _ _ 9
        intro L A w up hun hd F H
        have F := Sx.Fr.to F (kv' := [(3, .pointer (some ⟨g1, 0, none⟩)), (36, .bool false)]) ⟨rfl, rfl, trivial⟩
        refine Sx.step_ong rfl (Sx.guard_known (d := 36) (b := false) F rfl rfl) rfl (Sx.d_load (i := 1) (xs := [.int .u64 ((Wd.hi da).toNat), .int .u64 ((Wd.lo da).toNat)]) rw_24 F H rfl rfl rfl rfl rfl) ?_
        rintro xv w' ⟨hx, rfl⟩
        exact ⟨(fun cv hc => hx.trans (Option.some.inj (Option.some.inj hc))), H⟩
      · show Sx.StepAt _ _ _ _ _ _ _ 10
        intro L A w up hun hd F H
        have F := Sx.Fr.to F (kv' := [(1, .int .u8 n), (36, .bool false)]) ⟨rfl, rfl, trivial⟩
        refine Sx.step_ong rfl (Sx.guard_known (d := 36) (b := false) F rfl rfl) rfl (Sx.d_move F (Or.inl rfl) rfl) ?_
        rintro xv w' ⟨hx, rfl⟩
        exact ⟨(fun cv hc => hx.trans (Option.some.inj (Option.some.inj hc))), H⟩
      · show Sx.StepAt _ _ _ _ _ _ _ 11
        intro L A w up hun hd F H
        have F := Sx.Fr.to F (kv' := [(38, .int .u8 n), (36, .bool false)]) ⟨rfl, rfl, trivial⟩
        refine Sx.step_ong rfl (Sx.guard_known (d := 36) (b := false) F rfl rfl) rfl (Sx.d_conv (v := .int .i64 n) F rfl rfl (Sx.c_u8_i64 n (by omega))) ?_
        rintro xv w' ⟨hx, rfl⟩
        exact ⟨(fun cv hc => hx.trans (Option.some.inj (Option.some.inj hc))), H⟩
      · show Sx.StepAt _ _ _ _ _ _ _ 12
        intro L A w up hun hd F H
        have F := Sx.Fr.to F (kv' := [(37, .agg #[.int .u64 ((Wd.hi da).toNat), .int .u64 ((Wd.lo da).toNat)]), (39, .int .i64 n), (36, .bool false)]) ⟨rfl, rfl, rfl, trivial⟩
        refine Sx.step_ong rfl (Sx.guard_known (d := 36) (b := false) F rfl rfl) rfl (Sx.d_call (vs := [.agg #[.int .u64 ((Wd.hi da).toNat), .int .u64 ((Wd.lo da).toNat)], .int .i64 n]) (v := .agg #[.int .u64 ((Wd.hi (da <<< n)).toNat), .int .u64 ((Wd.lo (da <<< n)).toNat)]) if_15 F H rfl rfl (wleftN_c da n (by omega) _)) ?_
        rintro xv w' ⟨hx, H⟩
        exact ⟨(fun cv hc => hx.trans (Option.some.inj (Option.some.inj hc))), H⟩
      · show Sx.StepAt _ _ _ _ _ _ _ 13
        intro L A w up hun hd F H
        have F := Sx.Fr.to F (kv' := [(2, .int .u8 m), (36, .bool false)]) ⟨rfl, rfl, trivial⟩
        refine Sx.step_ong rfl (Sx.guard_known (d := 36) (b := false) F rfl rfl) rfl (Sx.d_move F (Or.inl rfl) rfl) ?_
        rintro xv w' ⟨hx, rfl⟩
        exact ⟨(fun cv hc => hx.trans (Option.some.inj (Option.some.inj hc))), H⟩
      · show Sx.StepAt _ _ _ _ _ _ _ 14
        intro L A w up hun hd F H
        have F := Sx.Fr.to F (kv' := [(41, .int .u8 m), (36, .bool false)]) ⟨rfl, rfl, trivial⟩
        refine Sx.step_ong rfl (Sx.guard_known (d := 36) (b := false) F rfl rfl) rfl (Sx.d_conv (v := .int .i64 m) F rfl rfl (Sx.c_u8_i64 m (by omega))) ?_
        rintro xv w' ⟨hx, rfl⟩
        exact ⟨(fun cv hc => hx.trans (Option.some.inj (Option.some.inj hc))), H⟩
      · show Sx.StepAt _ _ _ _ _ _ _ 15
        intro L A w up hun hd F H
        have F := Sx.Fr.to F (kv' := [(40, .agg #[.int .u64 ((Wd.hi (da <<< n)).toNat), .int .u64 ((Wd.lo (da <<< n)).toNat)]), (42, .int .i64 m), (36, .bool false)]) ⟨rfl, rfl, rfl, trivial⟩
        refine Sx.step_ong rfl (Sx.guard_known (d := 36) (b := false) F rfl rfl) rfl (Sx.d_call (vs := [.agg #[.int .u64 ((Wd.hi (da <<< n)).toNat), .int .u64 ((Wd.lo (da <<< n)).toNat)], .int .i64 m]) (v := .agg #[.int .u64 ((Wd.hi ((da <<< n) <<< m)).toNat), .int .u64 ((Wd.lo ((da <<< n) <<< m)).toNat)]) if_15 F H rfl rfl (wleftN_c (da <<< n) m (by omega) _)) ?_
        rintro xv w' ⟨hx, H⟩
        exact ⟨(fun cv hc => hx.trans (Option.some.inj (Option.some.inj hc))), H⟩
      · show Sx.StepAt _ _ _ _ _ _ _ 16
        intro L A w up hun hd F H
        have F := Sx.Fr.to F (kv' := [(3, .pointer (some ⟨g1, 0, none⟩)), (36, .bool false)]) ⟨rfl, rfl, trivial⟩
        refine Sx.step_ong rfl (Sx.guard_known (d := 36) (b := false) F rfl rfl) rfl (Sx.d_load (i := 1) (xs := [.int .u64 ((Wd.hi da).toNat), .int .u64 ((Wd.lo da).toNat)]) rw_24 F H rfl rfl rfl rfl rfl) ?_
        rintro xv w' ⟨hx, rfl⟩
        exact ⟨(fun cv hc => hx.trans (Option.some.inj (Option.some.inj hc))), H⟩
      · show Sx.StepAt _ _ _ _ _ _ _ 17
        intro L A w up hun hd F H
        have F := Sx.Fr.to F (kv' := [(1, .int .u8 n), (36, .bool false)]) ⟨rfl, rfl, trivial⟩
        refine Sx.step_ong rfl (Sx.guard_known (d := 36) (b := false) F rfl rfl) rfl (Sx.d_move F (Or.inl rfl) rfl) ?_
        rintro xv w' ⟨hx, rfl⟩
        exact ⟨(fun cv hc => hx.trans (Option.some.inj (Option.some.inj hc))), H⟩
      · show Sx.StepAt _ _ _ _ _ _ _ 18
        intro L A w up hun hd F H
        have F := Sx.Fr.to F (kv' := [(45, .int .u8 n), (36, .bool false)]) ⟨rfl, rfl, trivial⟩
        refine Sx.step_ong rfl (Sx.guard_known (d := 36) (b := false) F rfl rfl) rfl (Sx.d_conv (v := .int .i64 n) F rfl rfl (Sx.c_u8_i64 n (by omega))) ?_
        rintro xv w' ⟨hx, rfl⟩
        exact ⟨(fun cv hc => hx.trans (Option.some.inj (Option.some.inj hc))), H⟩
      · show Sx.StepAt _ _ _ _ _ _ _ 19
        intro L A w up hun hd F H
        have F := Sx.Fr.to F (kv' := [(2, .int .u8 m), (36, .bool false)]) ⟨rfl, rfl, trivial⟩
        refine Sx.step_ong rfl (Sx.guard_known (d := 36) (b := false) F rfl rfl) rfl (Sx.d_move F (Or.inl rfl) rfl) ?_
        rintro xv w' ⟨hx, rfl⟩
        exact ⟨(fun cv hc => hx.trans (Option.some.inj (Option.some.inj hc))), H⟩
      · show Sx.StepAt _ _ _ _ _ _ _ 20
        intro L A w up hun hd F H
        have F := Sx.Fr.to F (kv' := [(47, .int .u8 m), (36, .bool false)]) ⟨rfl, rfl, trivial⟩
        refine Sx.step_ong rfl (Sx.guard_known (d := 36) (b := false) F rfl rfl) rfl (Sx.d_conv (v := .int .i64 m) F rfl rfl (Sx.c_u8_i64 m (by omega))) ?_
        rintro xv w' ⟨hx, rfl⟩
        exact ⟨(fun cv hc => hx.trans (Option.some.inj (Option.some.inj hc))), H⟩
      · show Sx.StepAt _ _ _ _ _ _ _ 21
        intro L A w up hun hd F H
        have F := Sx.Fr.to F (kv' := [(46, .int .i64 n), (48, .int .i64 m), (36, .bool false)]) ⟨rfl, rfl, rfl, trivial⟩
        refine Sx.step_ong rfl (Sx.guard_known (d := 36) (b := false) F rfl rfl) rfl (Sx.d_bin (v := .int .i64 (n + m : Nat)) F rfl rfl rfl (Sx.i_addN rfl (Sx.in_i64 _ (by omega)))) ?_
        rintro xv w' ⟨hx, rfl⟩
        exact ⟨(fun cv hc => hx.trans (Option.some.inj (Option.some.inj hc))), H⟩
      · show Sx.StepAt _ _ _ _ _ _ _ 22
        intro L A w up hun hd F H
        have F := Sx.Fr.to F (kv' := [(44, .agg #[.int .u64 ((Wd.hi da).toNat), .int .u64 ((Wd.lo da).toNat)]), (49, .int .i64 (n + m : Nat)), (36, .bool false)]) ⟨rfl, rfl, rfl, trivial⟩
        refine Sx.step_ong rfl (Sx.guard_known (d := 36) (b := false) F rfl rfl) rfl (Sx.d_call (vs := [.agg #[.int .u64 ((Wd.hi da).toNat), .int .u64 ((Wd.lo da).toNat)], .int .i64 (n + m : Nat)]) (v := .agg #[.int .u64 ((Wd.hi (da <<< (n + m))).toNat), .int .u64 ((Wd.lo (da <<< (n + m))).toNat)]) if_15 F H rfl rfl (wleftN_c da (n + m) (by omega) _)) ?_
        rintro xv w' ⟨hx, H⟩
        exact ⟨(fun cv hc => hx.trans (Option.some.inj (Option.some.inj hc))), H⟩
      · show Sx.StepAt _ _ _ _ _ _ _ 23
        intro L A w up hun hd F H
        have F := Sx.Fr.to F (kv' := [(43, .agg #[.int .u64 ((Wd.hi ((da <<< n) <<< m)).toNat), .int .u64 ((Wd.lo ((da <<< n) <<< m)).toNat)]), (50, .agg #[.int .u64 ((Wd.hi (da <<< (n + m))).toNat), .int .u64 ((Wd.lo (da <<< (n + m))).toNat)]), (36, .bool false)]) ⟨rfl, rfl, rfl, trivial⟩
        refine Sx.step_ong rfl (Sx.guard_known (d := 36) (b := false) F rfl rfl) rfl (Sx.d_bin (v := .bool false) F rfl rfl rfl (Sx.i_neV (by rw [show Wd.eqb ((da <<< n) <<< m) (da <<< (n + m)) = true from decide_eq_true (Wd.shl_add da n m)] <;> rfl))) ?_
        rintro xv w' ⟨hx, rfl⟩
        exact ⟨(fun cv hc => hx.trans (Option.some.inj (Option.some.inj hc))), H⟩
      · show Sx.StepAt _ _ _ _ _ _ _ 24
        intro L A w up hun hd F H
        have F := Sx.Fr.to F (kv' := [(36, .bool false), (51, .bool false)]) ⟨rfl, rfl, trivial⟩
        refine Sx.step_on rfl (Sx.d_pickF (v := .bool false) F rfl rfl rfl) ?_
        rintro xv w' ⟨hx, rfl⟩
        exact ⟨(fun cv hc => hx.trans (Option.some.inj (Option.some.inj hc))), H⟩
      · show Sx.StepAt _ _ _ _ _ _ _ 25
        intro L A w up hun hd F H
        have F := Sx.Fr.to F (kv' := [(52, .bool false)]) ⟨rfl, trivial⟩
        refine Sx.step_on rfl (Sx.d_move F (Or.inl rfl) rfl) ?_
        rintro xv w' ⟨hx, rfl⟩
        exact ⟨(fun cv hc => hx.trans (Option.some.inj (Option.some.inj hc))), H⟩
      · show Sx.StepAt _ _ _ _ _ _ _ 26
        intro L A w up hun hd F H
        have F := Sx.Fr.to F (kv' := [(3, .pointer (some ⟨g1, 0, none⟩)), (53, .bool false)]) ⟨rfl, rfl, trivial⟩
        refine Sx.step_ong rfl (Sx.guard_known (d := 53) (b := false) F rfl rfl) rfl (Sx.d_load (i := 1) (xs := [.int .u64 ((Wd.hi da).toNat), .int .u64 ((Wd.lo da).toNat)]) rw_24 F H rfl rfl rfl rfl rfl) ?_
        rintro xv w' ⟨hx, rfl⟩
        exact ⟨(fun cv hc => hx.trans (Option.some.inj (Option.some.inj hc))), H⟩
      · show Sx.StepAt _ _ _ _ _ _ _ 27
        intro L A w up hun hd F H
        have F := Sx.Fr.to F (kv' := [(1, .int .u8 n), (53, .bool false)]) ⟨rfl, rfl, trivial⟩
        refine Sx.step_ong rfl (Sx.guard_known (d := 53) (b := false) F rfl rfl) rfl (Sx.d_move F (Or.inl rfl) rfl) ?_
        rintro xv w' ⟨hx, rfl⟩
        exact ⟨(fun cv hc => hx.trans (Option.some.inj (Option.some.inj hc))), H⟩
      · show Sx.StepAt _ _ _ _ _ _ _ 28
        intro L A w up hun hd F H
        have F := Sx.Fr.to F (kv' := [(55, .int .u8 n), (53, .bool false)]) ⟨rfl, rfl, trivial⟩
        refine Sx.step_ong rfl (Sx.guard_known (d := 53) (b := false) F rfl rfl) rfl (Sx.d_conv (v := .int .i64 n) F rfl rfl (Sx.c_u8_i64 n (by omega))) ?_
        rintro xv w' ⟨hx, rfl⟩
        exact ⟨(fun cv hc => hx.trans (Option.some.inj (Option.some.inj hc))), H⟩
      · show Sx.StepAt _ _ _ _ _ _ _ 29
        intro L A w up hun hd F H
        have F := Sx.Fr.to F (kv' := [(54, .agg #[.int .u64 ((Wd.hi da).toNat), .int .u64 ((Wd.lo da).toNat)]), (56, .int .i64 n), (53, .bool false)]) ⟨rfl, rfl, rfl, trivial⟩
        refine Sx.step_ong rfl (Sx.guard_known (d := 53) (b := false) F rfl rfl) rfl (Sx.d_call (vs := [.agg #[.int .u64 ((Wd.hi da).toNat), .int .u64 ((Wd.lo da).toNat)], .int .i64 n]) (v := .agg #[.int .u64 ((Wd.hi (da >>> n)).toNat), .int .u64 ((Wd.lo (da >>> n)).toNat)]) if_16 F H rfl rfl (wrightN_c da n (by omega) _)) ?_
        rintro xv w' ⟨hx, H⟩
        exact ⟨(fun cv hc => hx.trans (Option.some.inj (Option.some.inj hc))), H⟩
      · show Sx.StepAt _ _ _ _ _ _ _ 30
        intro L A w up hun hd F H
        have F := Sx.Fr.to F (kv' := [(2, .int .u8 m), (53, .bool false)]) ⟨rfl, rfl, trivial⟩
        refine Sx.step_ong rfl (Sx.guard_known (d := 53) (b := false) F rfl rfl) rfl (Sx.d_move F (Or.inl rfl) rfl) ?_
        rintro xv w' ⟨hx, rfl⟩
        exact ⟨(fun cv hc => hx.trans (Option.some.inj (Option.some.inj hc))), H⟩
      · show Sx.StepAt _ _ _ _ _ _ _ 31
        intro L A w up hun hd F H
        have F := Sx.Fr.to F (kv' := [(58, .int .u8 m), (53, .bool false)]) ⟨rfl, rfl, trivial⟩
        refine Sx.step_ong rfl (Sx.guard_known (d := 53) (b := false) F rfl rfl) rfl (Sx.d_conv (v := .int .i64 m) F rfl rfl (Sx.c_u8_i64 m (by omega))) ?_
        rintro xv w' ⟨hx, rfl⟩
        exact ⟨(fun cv hc => hx.trans (Option.some.inj (Option.some.inj hc))), H⟩
      · show Sx.StepAt _ _ _ _ _ _ _ 32
        intro L A w up hun hd F H
        have F := Sx.Fr.to F (kv' := [(57, .agg #[.int .u64 ((Wd.hi (da >>> n)).toNat), .int .u64 ((Wd.lo (da >>> n)).toNat)]), (59, .int .i64 m), (53, .bool false)]) ⟨rfl, rfl, rfl, trivial⟩
        refine Sx.step_ong rfl (Sx.guard_known (d := 53) (b := false) F rfl rfl) rfl (Sx.d_call (vs := [.agg #[.int .u64 ((Wd.hi (da >>> n)).toNat), .int .u64 ((Wd.lo (da >>> n)).toNat)], .int .i64 m]) (v := .agg #[.int .u64 ((Wd.hi ((da >>> n) >>> m)).toNat), .int .u64 ((Wd.lo ((da >>> n) >>> m)).toNat)]) if_16 F H rfl rfl (wrightN_c (da >>> n) m (by omega) _)) ?_
        rintro xv w' ⟨hx, H⟩
        exact ⟨(fun cv hc => hx.trans (Option.some.inj (Option.some.inj hc))), H⟩
      · show Sx.StepAt _ _ _ _ _ _ _ 33
        intro L A w up hun hd F H
        have F := Sx.Fr.to F (kv' := [(3, .pointer (some ⟨g1, 0, none⟩)), (53, .bool false)]) ⟨rfl, rfl, trivial⟩
        refine Sx.step_ong rfl (Sx.guard_known (d := 53) (b := false) F rfl rfl) rfl (Sx.d_load (i := 1) (xs := [.int .u64 ((Wd.hi da).toNat), .int .u64 ((Wd.lo da).toNat)]) rw_24 F H rfl rfl rfl rfl rfl) ?_
        rintro xv w' ⟨hx, rfl⟩
        exact ⟨(fun cv hc => hx.trans (Option.some.inj (Option.some.inj hc))), H⟩
      · show Sx.StepAt _ _ _ _ _ _ _ 34
        intro L A w up hun hd F H
        have F := Sx.Fr.to F (kv' := [(1, .int .u8 n), (53, .bool false)]) ⟨rfl, rfl, trivial⟩
        refine Sx.step_ong rfl (Sx.guard_known (d := 53) (b := false) F rfl rfl) rfl (Sx.d_move F (Or.inl rfl) rfl) ?_
        rintro xv w' ⟨hx, rfl⟩
        exact ⟨(fun cv hc => hx.trans (Option.some.inj (Option.some.inj hc))), H⟩
      · show Sx.StepAt _ _ _ _ _ _ _ 35
        intro L A w up hun hd F H
        have F := Sx.Fr.to F (kv' := [(62, .int .u8 n), (53, .bool false)]) ⟨rfl, rfl, trivial⟩
        refine Sx.step_ong rfl (Sx.guard_known (d := 53) (b := false) F rfl rfl) rfl (Sx.d_conv (v := .int .i64 n) F rfl rfl (Sx.c_u8_i64 n (by omega))) ?_
        rintro xv w' ⟨hx, rfl⟩
        exact ⟨(fun cv hc => hx.trans (Option.some.inj (Option.some.inj hc))), H⟩
      · show Sx.StepAt _ _ _ _ _ _ _ 36
        intro L A w up hun hd F H
        have F := Sx.Fr.to F (kv' := [(2, .int .u8 m), (53, .bool false)]) ⟨rfl, rfl, trivial⟩
        refine Sx.step_ong rfl (Sx.guard_known (d := 53) (b := false) F rfl rfl) rfl (Sx.d_move F (Or.inl rfl) rfl) ?_
        rintro xv w' ⟨hx, rfl⟩
        exact ⟨(fun cv hc => hx.trans (Option.some.inj (Option.some.inj hc))), H⟩
      · show Sx.StepAt _ _ _ _ _ _ _ 37
        intro L A w up hun hd F H
        have F := Sx.Fr.to F (kv' := [(64, .int .u8 m), (53, .bool false)]) ⟨rfl, rfl, trivial⟩
        refine Sx.step_ong rfl (Sx.guard_known (d := 53) (b := false) F rfl rfl) rfl (Sx.d_conv (v := .int .i64 m) F rfl rfl (Sx.c_u8_i64 m (by omega))) ?_
        rintro xv w' ⟨hx, rfl⟩
        exact ⟨(fun cv hc => hx.trans (Option.some.inj (Option.some.inj hc))), H⟩
      · show Sx.StepAt _ _ _ _ _ _ _ 38
        intro L A w up hun hd F H
        have F := Sx.Fr.to F (kv' := [(63, .int .i64 n), (65, .int .i64 m), (53, .bool false)]) ⟨rfl, rfl, rfl, trivial⟩
        refine Sx.step_ong rfl (Sx.guard_known (d := 53) (b := false) F rfl rfl) rfl (Sx.d_bin (v := .int .i64 (n + m : Nat)) F rfl rfl rfl (Sx.i_addN rfl (Sx.in_i64 _ (by omega)))) ?_
        rintro xv w' ⟨hx, rfl⟩
        exact ⟨(fun cv hc => hx.trans (Option.some.inj (Option.some.inj hc))), H⟩
      · show Sx.StepAt _ _ _ _ _ _ _ 39
        intro L A w up hun hd F H
        have F := Sx.Fr.to F (kv' := [(61, .agg #[.int .u64 ((Wd.hi da).toNat), .int .u64 ((Wd.lo da).toNat)]), (66, .int .i64 (n + m : Nat)), (53, .bool false)]) ⟨rfl, rfl, rfl, trivial⟩
        refine Sx.step_ong rfl (Sx.guard_known (d := 53) (b := false) F rfl rfl) rfl (Sx.d_call (vs := [.agg #[.int .u64 ((Wd.hi da).toNat), .int .u64 ((Wd.lo da).toNat)], .int .i64 (n + m : Nat)]) (v := .agg #[.int .u64 ((Wd.hi (da >>> (n + m))).toNat), .int .u64 ((Wd.lo (da >>> (n + m))).toNat)]) if_16 F H rfl rfl (wrightN_c da (n + m) (by omega) _)) ?_
        rintro xv w' ⟨hx, H⟩
        exact ⟨(fun cv hc => hx.trans (Option.some.inj (Option.some.inj hc))), H⟩
      · show Sx.StepAt _ _ _ _ _ _ _ 40
        intro L A w up hun hd F H
        have F := Sx.Fr.to F (kv' := [(60, .agg #[.int .u64 ((Wd.hi ((da >>> n) >>> m)).toNat), .int .u64 ((Wd.lo ((da >>> n) >>> m)).toNat)]), (67, .agg #[.int .u64 ((Wd.hi (da >>> (n + m))).toNat), .int .u64 ((Wd.lo (da >>> (n + m))).toNat)]), (53, .bool false)]) ⟨rfl, rfl, rfl, trivial⟩
        refine Sx.step_ong rfl (Sx.guard_known (d := 53) (b := false) F rfl rfl) rfl (Sx.d_bin (v := .bool false) F rfl rfl rfl (Sx.i_neV (by rw [show Wd.eqb ((da >>> n) >>> m) (da >>> (n + m)) = true from decide_eq_true (Wd.shr_add da n m)] <;> rfl))) ?_
        rintro xv w' ⟨hx, rfl⟩
        exact ⟨(fun cv hc => hx.trans (Option.some.inj (Option.some.inj hc))), H⟩
      · show Sx.StepAt _ _ _ _ _ _ _ 41
        intro L A w up hun hd F H
        have F := Sx.Fr.to F (kv' := [(53, .bool false), (68, .bool false)]) ⟨rfl, rfl, trivial⟩
        refine Sx.step_on rfl (Sx.d_pickF (v := .bool false) F rfl rfl rfl) ?_
        rintro xv w' ⟨hx, rfl⟩
        exact ⟨(fun cv hc => hx.trans (Option.some.inj (Option.some.inj hc))), H⟩
    · intro L A w hL F H
      have F := Sx.Fr.to F (kv' := [(1, .int .u8 n), (2, .int .u8 m), (3, .pointer (some ⟨g1, 0, none⟩)), (6, .bool false), (7, .pointer (some ⟨g2, 0, none⟩)), (8, .pointer (some ⟨g3, 0, none⟩)), (69, .bool false)]) ⟨rfl, rfl, rfl, rfl, rfl, rfl, rfl, trivial⟩
      refine hK7 _ _ ?_
      refine Sx.condF F rfl ?_
      refine wp_skip ?_
      refine hK6 _ _ ?_
      refine Sx.seq (fun K8 hK8 => ?_)
      have rest8 : ∀ A w, Sx.Fr 132 A [(1, .int .u8 n), (2, .int .u8 m), (3, .pointer (some ⟨g1, 0, none⟩))] → Sx.Own w0 w [(true, g2, [.int .u64 ((Wd.hi (1#128 <<< n)).toNat), .int .u64 ((Wd.lo (1#128 <<< n)).toNat)]), (true, g1, [.int .u64 ((Wd.hi da).toNat), .int .u64 ((Wd.lo da).toNat)]), (true, g3, [.int .u64 ((Wd.hi (da - ((da >>> n) <<< n))).toNat), .int .u64 ((Wd.lo (da - ((da >>> n) <<< n))).toNat)])] [] → K8 A w := by
        intro A w F H
        refine hK8 _ _ ?_
        by_cases hz : Bi.len da = 0
        · skip
          refine Sx.seq (fun K9 hK9 => ?_)
          have F := Sx.Fr.to F (kv' := [(1, .int .u8 n), (2, .int .u8 m), (3, .pointer (some ⟨g1, 0, none⟩))]) ⟨rfl, rfl, rfl, trivial⟩
          refine Sx.drawn F (by kernel_rfl) (by kernel_rfl) (by kernel_rfl) [some (.agg #[.int .u64 ((Wd.hi da).toNat), .int .u64 ((Wd.lo da).toNat)]), some (.int .u8 n), some (.int .i64 n), some (.agg #[.int .u64 ((Wd.hi (da >>> n)).toNat), .int .u64 ((Wd.lo (da >>> n)).toNat)]), some (.int .u8 m), some (.int .i64 m), some (.int .i64 (Wd.bit (da >>> n) m)), some (.agg #[.int .u64 ((Wd.hi da).toNat), .int .u64 ((Wd.lo da).toNat)]), some (.int .u8 n), some (.int .i64 n), some (.int .u8 m), some (.int .i64 m), some (.int .i64 (n + m : Nat)), some (.int .i64 (Wd.bit da (n + m))), some (.bool true), some (.bool true), some (.agg #[.int .u64 ((Wd.hi da).toNat), .int .u64 ((Wd.lo da).toNat)]), some (.int .i64 (Bi.len da)), some (.bool true), some (.agg #[.int .u64 ((Wd.hi da).toNat), .int .u64 ((Wd.lo da).toNat)]), some (.agg #[.int .u64 ((Wd.hi 0#128).toNat), .int .u64 ((Wd.lo 0#128).toNat)]), some (.bool true), some (.bool true), some (.bool true), some (.bool true), some (.agg #[.int .u64 ((Wd.hi da).toNat), .int .u64 ((Wd.lo da).toNat)]), some (.int .i64 (Bi.len da)), some (.bool true), some (.bool true), some (undef), some (undef), some (undef), some (undef), some (undef), some (undef), some (undef), some (undef), some (undef), some (undef), some (undef), some (undef), some (undef), some (undef), some (.bool true), some (.bool true), some (.bool true)] (fun L A w => Sx.Own w0 w [(true, g2, [.int .u64 ((Wd.hi (1#128 <<< n)).toNat), .int .u64 ((Wd.lo (1#128 <<< n)).toNat)]), (true, g1, [.int .u64 ((Wd.hi da).toNat), .int .u64 ((Wd.lo da).toNat)]), (true, g3, [.int .u64 ((Wd.hi (da - ((da >>> n) <<< n))).toNat), .int .u64 ((Wd.lo (da - ((da >>> n) <<< n))).toNat)])] []) H.drew ?_ ?_
          · refine ⟨?_, ?_, ?_, ?_, ?_, ?_, ?_, ?_, ?_, ?_, ?_, ?_, ?_, ?_, ?_, ?_, ?_, ?_, ?_, ?_, ?_, ?_, ?_, ?_, ?_, ?_, ?_, ?_, ?_, ?_, ?_, ?_, ?_, ?_, ?_, ?_, ?_, ?_, ?_, ?_, ?_, ?_, ?_, ?_, ?_, ?_, trivial⟩
            · show Sx.StepAt _ _ _ _ _ _ _ 0
              intro L A w up hun hd F H
              have F := Sx.Fr.to F (kv' := [(3, .pointer (some ⟨g1, 0, none⟩))]) ⟨rfl, trivial⟩
              refine Sx.step_on rfl (Sx.d_load (i := 1) (xs := [.int .u64 ((Wd.hi da).toNat), .int .u64 ((Wd.lo da).toNat)]) rw_24 F H rfl rfl rfl rfl rfl) ?_
              rintro xv w' ⟨hx, rfl⟩
              exact ⟨(fun cv hc => hx.trans (Option.some.inj (Option.some.inj hc))), H⟩
            · show Sx.StepAt _ _ _ _ _ _ _ 1
              intro L A w up hun hd F H
              have F := Sx.Fr.to F (kv' := [(1, .int .u8 n)]) ⟨rfl, trivial⟩
              refine Sx.step_on rfl (Sx.d_move F (Or.inl rfl) rfl) ?_
              rintro xv w' ⟨hx, rfl⟩
              exact ⟨(fun cv hc => hx.trans (Option.some.inj (Option.some.inj hc))), H⟩
            · show Sx.StepAt _ _ _ _ _ _ _ 2
              intro L A w up hun hd F H
              have F := Sx.Fr.to F (kv' := [(88, .int .u8 n)]) ⟨rfl, trivial⟩
              refine Sx.step_on rfl (Sx.d_conv (v := .int .i64 n) F rfl rfl (Sx.c_u8_i64 n (by omega))) ?_
              rintro xv w' ⟨hx, rfl⟩
              exact ⟨(fun cv hc => hx.trans (Option.some.inj (Option.some.inj hc))), H⟩
            · show Sx.StepAt _ _ _ _ _ _ _ 3
              intro L A w up hun hd F H
              have F := Sx.Fr.to F (kv' := [(87, .agg #[.int .u64 ((Wd.hi da).toNat), .int .u64 ((Wd.lo da).toNat)]), (89, .int .i64 n)]) ⟨rfl, rfl, trivial⟩
              refine Sx.step_on rfl (Sx.d_call (vs := [.agg #[.int .u64 ((Wd.hi da).toNat), .int .u64 ((Wd.lo da).toNat)], .int .i64 n]) (v := .agg #[.int .u64 ((Wd.hi (da >>> n)).toNat), .int .u64 ((Wd.lo (da >>> n)).toNat)]) if_16 F H rfl rfl (wrightN_c da n (by omega) _)) ?_
              rintro xv w' ⟨hx, H⟩
              exact ⟨(fun cv hc => hx.trans (Option.some.inj (Option.some.inj hc))), H⟩
            · show Sx.StepAt _ _ _ _ _ _ _ 4
              intro L A w up hun hd F H
              have F := Sx.Fr.to F (kv' := [(2, .int .u8 m)]) ⟨rfl, trivial⟩
              refine Sx.step_on rfl (Sx.d_move F (Or.inl rfl) rfl) ?_
              rintro xv w' ⟨hx, rfl⟩
              exact ⟨(fun cv hc => hx.trans (Option.some.inj (Option.some.inj hc))), H⟩
            · show Sx.StepAt _ _ _ _ _ _ _ 5
              intro L A w up hun hd F H
              have F := Sx.Fr.to F (kv' := [(91, .int .u8 m)]) ⟨rfl, trivial⟩
              refine Sx.step_on rfl (Sx.d_conv (v := .int .i64 m) F rfl rfl (Sx.c_u8_i64 m (by omega))) ?_
              rintro xv w' ⟨hx, rfl⟩
              exact ⟨(fun cv hc => hx.trans (Option.some.inj (Option.some.inj hc))), H⟩
            · show Sx.StepAt _ _ _ _ _ _ _ 6
              intro L A w up hun hd F H
              have F := Sx.Fr.to F (kv' := [(90, .agg #[.int .u64 ((Wd.hi (da >>> n)).toNat), .int .u64 ((Wd.lo (da >>> n)).toNat)]), (92, .int .i64 m)]) ⟨rfl, rfl, trivial⟩
              refine Sx.step_on rfl (Sx.d_call (vs := [.agg #[.int .u64 ((Wd.hi (da >>> n)).toNat), .int .u64 ((Wd.lo (da >>> n)).toNat)], .int .i64 m]) (v := .int .i64 (Wd.bit (da >>> n) m)) if_18 F H rfl rfl (wbit_c (da >>> n) m (by omega) _)) ?_
              rintro xv w' ⟨hx, H⟩
              exact ⟨(fun cv hc => hx.trans (Option.some.inj (Option.some.inj hc))), H⟩
            · show Sx.StepAt _ _ _ _ _ _ _ 7
              intro L A w up hun hd F H
              have F := Sx.Fr.to F (kv' := [(3, .pointer (some ⟨g1, 0, none⟩))]) ⟨rfl, trivial⟩
              refine Sx.step_on rfl (Sx.d_load (i := 1) (xs := [.int .u64 ((Wd.hi da).toNat), .int .u64 ((Wd.lo da).toNat)]) rw_24 F H rfl rfl rfl rfl rfl) ?_
              rintro xv w' ⟨hx, rfl⟩
              exact ⟨(fun cv hc => hx.trans (Option.some.inj (Option.some.inj hc))), H⟩
            · show Sx.StepAt _ _ _ _ _ _ _ 8
              intro L A w up hun hd F H
              have F := Sx.Fr.to F (kv' := [(1, .int .u8 n)]) ⟨rfl, trivial⟩
              refine Sx.step_on rfl (Sx.d_move F (Or.inl rfl) rfl) ?_
              rintro xv w' ⟨hx, rfl⟩
              exact ⟨(fun cv hc => hx.trans (Option.some.inj (Option.some.inj hc))), H⟩
            · show Sx.StepAt _ _ _ _ _ _ _ 9
              intro L A w up hun hd F H
              have F := Sx.Fr.to F (kv' := [(95, .int .u8 n)]) ⟨rfl, trivial⟩
              refine Sx.step_on rfl (Sx.d_conv (v := .int .i64 n) F rfl rfl (Sx.c_u8_i64 n (by omega))) ?_
              rintro xv w' ⟨hx, rfl⟩
              exact ⟨(fun cv hc => hx.trans (Option.some.inj (Option.some.inj hc))), H⟩
            · show Sx.StepAt _ _ _ _ _ _ _ 10
              intro L A w up hun hd F H
              have F := Sx.Fr.to F (kv' := [(2, .int .u8 m)]) ⟨rfl, trivial⟩
              refine Sx.step_on rfl (Sx.d_move F (Or.inl rfl) rfl) ?_
              rintro xv w' ⟨hx, rfl⟩
              exact ⟨(fun cv hc => hx.trans (Option.some.inj (Option.some.inj hc))), H⟩
            · show Sx.StepAt _ _ _ _ _ _ _ 11
              intro L A w up hun hd F H
              have F := Sx.Fr.to F (kv' := [(97, .int .u8 m)]) ⟨rfl, trivial⟩
              refine Sx.step_on rfl (Sx.d_conv (v := .int .i64 m) F rfl rfl (Sx.c_u8_i64 m (by omega))) ?_
              rintro xv w' ⟨hx, rfl⟩
              exact ⟨(fun cv hc => hx.trans (Option.some.inj (Option.some.inj hc))), H⟩
            · show Sx.StepAt _ _ _ _ _ _ _ 12
              intro L A w up hun hd F H
              have F := Sx.Fr.to F (kv' := [(96, .int .i64 n), (98, .int .i64 m)]) ⟨rfl, rfl, trivial⟩
              refine Sx.step_on rfl (Sx.d_bin (v := .int .i64 (n + m : Nat)) F rfl rfl rfl (Sx.i_addN rfl (Sx.in_i64 _ (by omega)))) ?_
              rintro xv w' ⟨hx, rfl⟩
              exact ⟨(fun cv hc => hx.trans (Option.some.inj (Option.some.inj hc))), H⟩
            · show Sx.StepAt _ _ _ _ _ _ _ 13
              intro L A w up hun hd F H
              have F := Sx.Fr.to F (kv' := [(94, .agg #[.int .u64 ((Wd.hi da).toNat), .int .u64 ((Wd.lo da).toNat)]), (99, .int .i64 (n + m : Nat))]) ⟨rfl, rfl, trivial⟩
              refine Sx.step_on rfl (Sx.d_call (vs := [.agg #[.int .u64 ((Wd.hi da).toNat), .int .u64 ((Wd.lo da).toNat)], .int .i64 (n + m : Nat)]) (v := .int .i64 (Wd.bit da (n + m))) if_18 F H rfl rfl (wbit_c da (n + m) (by omega) _)) ?_
              rintro xv w' ⟨hx, H⟩
              exact ⟨(fun cv hc => hx.trans (Option.some.inj (Option.some.inj hc))), H⟩
            · show Sx.StepAt _ _ _ _ _ _ _ 14
              intro L A w up hun hd F H
              have F := Sx.Fr.to F (kv' := [(93, .int .i64 (Wd.bit (da >>> n) m)), (100, .int .i64 (Wd.bit da (n + m)))]) ⟨rfl, rfl, trivial⟩
              refine Sx.step_on rfl (Sx.d_bin (v := .bool true) F rfl rfl rfl (Sx.i_eq (beq_iff_eq.2 (congrArg Int.ofNat (Wd.bit_right da n m))))) ?_
              rintro xv w' ⟨hx, rfl⟩
              exact ⟨(fun cv hc => hx.trans (Option.some.inj (Option.some.inj hc))), H⟩
            · show Sx.StepAt _ _ _ _ _ _ _ 15
              intro L A w up hun hd F H
              have F := Sx.Fr.to F (kv' := [(101, .bool true)]) ⟨rfl, trivial⟩
              refine Sx.step_on rfl (Sx.d_move F (Or.inl rfl) rfl) ?_
              rintro xv w' ⟨hx, rfl⟩
              exact ⟨(fun cv hc => hx.trans (Option.some.inj (Option.some.inj hc))), H⟩
            · show Sx.StepAt _ _ _ _ _ _ _ 16
              intro L A w up hun hd F H
              have F := Sx.Fr.to F (kv' := [(3, .pointer (some ⟨g1, 0, none⟩)), (102, .bool true)]) ⟨rfl, rfl, trivial⟩
              refine Sx.step_ong rfl (Sx.guard_known (d := 102) (b := true) F rfl rfl) rfl (Sx.d_load (i := 1) (xs := [.int .u64 ((Wd.hi da).toNat), .int .u64 ((Wd.lo da).toNat)]) rw_24 F H rfl rfl rfl rfl rfl) ?_
              rintro xv w' ⟨hx, rfl⟩
              exact ⟨(fun cv hc => hx.trans (Option.some.inj (Option.some.inj hc))), H⟩
            · show Sx.StepAt _ _ _ _ _ _ _ 17
              intro L A w up hun hd F H
              have F := Sx.Fr.to F (kv' := [(103, .agg #[.int .u64 ((Wd.hi da).toNat), .int .u64 ((Wd.lo da).toNat)]), (102, .bool true)]) ⟨rfl, rfl, trivial⟩
              refine Sx.step_ong rfl (Sx.guard_known (d := 102) (b := true) F rfl rfl) rfl (Sx.d_call (vs := [.agg #[.int .u64 ((Wd.hi da).toNat), .int .u64 ((Wd.lo da).toNat)]]) (v := .int .i64 (Bi.len da)) if_19 F H rfl rfl (wlen_c da _)) ?_
              rintro xv w' ⟨hx, H⟩
              exact ⟨(fun cv hc => hx.trans (Option.some.inj (Option.some.inj hc))), H⟩
            · show Sx.StepAt _ _ _ _ _ _ _ 18
              intro L A w up hun hd F H
              have F := Sx.Fr.to F (kv' := [(104, .int .i64 (Bi.len da)), (102, .bool true)]) ⟨rfl, rfl, trivial⟩
              refine Sx.step_ong rfl (Sx.guard_known (d := 102) (b := true) F rfl rfl) rfl (Sx.d_bin (v := .bool true) F rfl rfl rfl (Sx.i_eq (beq_iff_eq.2 (by omega)))) ?_
              rintro xv w' ⟨hx, rfl⟩
              exact ⟨(fun cv hc => hx.trans (Option.some.inj (Option.some.inj hc))), H⟩
            · show Sx.StepAt _ _ _ _ _ _ _ 19
              intro L A w up hun hd F H
              have F := Sx.Fr.to F (kv' := [(3, .pointer (some ⟨g1, 0, none⟩)), (102, .bool true)]) ⟨rfl, rfl, trivial⟩
              refine Sx.step_ong rfl (Sx.guard_known (d := 102) (b := true) F rfl rfl) rfl (Sx.d_load (i := 1) (xs := [.int .u64 ((Wd.hi da).toNat), .int .u64 ((Wd.lo da).toNat)]) rw_24 F H rfl rfl rfl rfl rfl) ?_
              rintro xv w' ⟨hx, rfl⟩
              exact ⟨(fun cv hc => hx.trans (Option.some.inj (Option.some.inj hc))), H⟩
            · show Sx.StepAt _ _ _ _ _ _ _ 20
              intro L A w up hun hd F H
              have F := Sx.Fr.to F (kv' := [(102, .bool true)]) ⟨rfl, trivial⟩
              refine Sx.step_ong rfl (Sx.guard_known (d := 102) (b := true) F rfl rfl) rfl (Sx.d_build (qs := #[]) (v := .agg #[.int .u64 ((Wd.hi 0#128).toNat), .int .u64 ((Wd.lo 0#128).toNat)]) F rfl rfl (by kernel_rfl)) ?_
              rintro xv w' ⟨hx, rfl⟩
              exact ⟨(fun cv hc => hx.trans (Option.some.inj (Option.some.inj hc))), H⟩
            · show Sx.StepAt _ _ _ _ _ _ _ 21
              intro L A w up hun hd F H
              have F := Sx.Fr.to F (kv' := [(106, .agg #[.int .u64 ((Wd.hi da).toNat), .int .u64 ((Wd.lo da).toNat)]), (107, .agg #[.int .u64 ((Wd.hi 0#128).toNat), .int .u64 ((Wd.lo 0#128).toNat)]), (102, .bool true)]) ⟨rfl, rfl, rfl, trivial⟩
              refine Sx.step_ong rfl (Sx.guard_known (d := 102) (b := true) F rfl rfl) rfl (Sx.d_bin (v := .bool true) F rfl rfl rfl (Sx.i_eqV (decide_eq_true ((Bi.len_zero da).1 hz)))) ?_
              rintro xv w' ⟨hx, rfl⟩
              exact ⟨(fun cv hc => hx.trans (Option.some.inj (Option.some.inj hc))), H⟩
            · show Sx.StepAt _ _ _ _ _ _ _ 22
              intro L A w up hun hd F H
              have F := Sx.Fr.to F (kv' := [(105, .bool true), (108, .bool true), (102, .bool true)]) ⟨rfl, rfl, rfl, trivial⟩
              refine Sx.step_ong rfl (Sx.guard_known (d := 102) (b := true) F rfl rfl) rfl (Sx.d_bin (v := .bool true) F rfl rfl rfl (Sx.b_eq (by simp))) ?_
              rintro xv w' ⟨hx, rfl⟩
              exact ⟨(fun cv hc => hx.trans (Option.some.inj (Option.some.inj hc))), H⟩
            · show Sx.StepAt _ _ _ _ _ _ _ 23
              intro L A w up hun hd F H
              have F := Sx.Fr.to F (kv' := [(102, .bool true), (109, .bool true)]) ⟨rfl, rfl, trivial⟩
              refine Sx.step_on rfl (Sx.d_pickT (v := .bool true) F rfl rfl rfl) ?_
              rintro xv w' ⟨hx, rfl⟩
              exact ⟨(fun cv hc => hx.trans (Option.some.inj (Option.some.inj hc))), H⟩
            · show Sx.StepAt _ _ _ _ _ _ _ 24
              intro L A w up hun hd F H
              have F := Sx.Fr.to F (kv' := [(110, .bool true)]) ⟨rfl, trivial⟩
              refine Sx.step_on rfl (Sx.d_move F (Or.inl rfl) rfl) ?_
              rintro xv w' ⟨hx, rfl⟩
              exact ⟨(fun cv hc => hx.trans (Option.some.inj (Option.some.inj hc))), H⟩
            · show Sx.StepAt _ _ _ _ _ _ _ 25
              intro L A w up hun hd F H
              have F := Sx.Fr.to F (kv' := [(3, .pointer (some ⟨g1, 0, none⟩)), (111, .bool true)]) ⟨rfl, rfl, trivial⟩
              refine Sx.step_ong rfl (Sx.guard_known (d := 111) (b := true) F rfl rfl) rfl (Sx.d_load (i := 1) (xs := [.int .u64 ((Wd.hi da).toNat), .int .u64 ((Wd.lo da).toNat)]) rw_24 F H rfl rfl rfl rfl rfl) ?_
              rintro xv w' ⟨hx, rfl⟩
              exact ⟨(fun cv hc => hx.trans (Option.some.inj (Option.some.inj hc))), H⟩
            · show Sx.StepAt _ _ _ _ _ _ _ 26
              intro L A w up hun hd F H
              have F := Sx.Fr.to F (kv' := [(112, .agg #[.int .u64 ((Wd.hi da).toNat), .int .u64 ((Wd.lo da).toNat)]), (111, .bool true)]) ⟨rfl, rfl, trivial⟩
              refine Sx.step_ong rfl (Sx.guard_known (d := 111) (b := true) F rfl rfl) rfl (Sx.d_call (vs := [.agg #[.int .u64 ((Wd.hi da).toNat), .int .u64 ((Wd.lo da).toNat)]]) (v := .int .i64 (Bi.len da)) if_19 F H rfl rfl (wlen_c da _)) ?_
              rintro xv w' ⟨hx, H⟩
              exact ⟨(fun cv hc => hx.trans (Option.some.inj (Option.some.inj hc))), H⟩
            · show Sx.StepAt _ _ _ _ _ _ _ 27
              intro L A w up hun hd F H
              have F := Sx.Fr.to F (kv' := [(113, .int .i64 (Bi.len da)), (111, .bool true)]) ⟨rfl, rfl, trivial⟩
              refine Sx.step_ong rfl (Sx.guard_known (d := 111) (b := true) F rfl rfl) rfl (Sx.d_bin (v := .bool true) F rfl rfl rfl (Sx.i_eq (beq_iff_eq.2 (by omega)))) ?_
              rintro xv w' ⟨hx, rfl⟩
              exact ⟨(fun cv hc => hx.trans (Option.some.inj (Option.some.inj hc))), H⟩
            · show Sx.StepAt _ _ _ _ _ _ _ 28
              intro L A w up hun hd F H
              have F := Sx.Fr.to F (kv' := [(114, .bool true), (111, .bool true)]) ⟨rfl, rfl, trivial⟩
              refine Sx.step_ong rfl (Sx.guard_known (d := 111) (b := true) F rfl rfl) rfl (Sx.d_move F (Or.inl rfl) rfl) ?_
              rintro xv w' ⟨hx, rfl⟩
              exact ⟨(fun cv hc => hx.trans (Option.some.inj (Option.some.inj hc))), H⟩
            · show Sx.StepAt _ _ _ _ _ _ _ 29
              intro L A w up hun hd F H
              have F := Sx.Fr.to F (kv' := [(3, .pointer (some ⟨g1, 0, none⟩)), (115, .bool true)]) ⟨rfl, rfl, trivial⟩
              exact Sx.step_off rfl (Sx.guard_known (d := 115) (b := true) F rfl rfl) rfl ⟨(fun cv hc => Option.some.inj (Option.some.inj hc)), H⟩
            · show Sx.StepAt _ _ _ _ _ _ _ 30
              intro L A w up hun hd F H
              have F := Sx.Fr.to F (kv' := [(3, .pointer (some ⟨g1, 0, none⟩)), (115, .bool true)]) ⟨rfl, rfl, trivial⟩
              exact Sx.step_off rfl (Sx.guard_known (d := 115) (b := true) F rfl rfl) rfl ⟨(fun cv hc => Option.some.inj (Option.some.inj hc)), H⟩
            · show Sx.StepAt _ _ _ _ _ _ _ 31
              intro L A w up hun hd F H
              have F := Sx.Fr.to F (kv' := [(117, undef), (115, .bool true)]) ⟨rfl, rfl, trivial⟩
              exact Sx.step_off rfl (Sx.guard_known (d := 115) (b := true) F rfl rfl) rfl ⟨(fun cv hc => Option.some.inj (Option.some.inj hc)), H⟩
            · show Sx.StepAt _ _ _ _ _ _ _ 32
              intro L A w up hun hd F H
              have F := Sx.Fr.to F (kv' := [(118, undef), (115, .bool true)]) ⟨rfl, rfl, trivial⟩
              exact Sx.step_off rfl (Sx.guard_known (d := 115) (b := true) F rfl rfl) rfl ⟨(fun cv hc => Option.some.inj (Option.some.inj hc)), H⟩
            · show Sx.StepAt _ _ _ _ _ _ _ 33
              intro L A w up hun hd F H
              have F := Sx.Fr.to F (kv' := [(116, undef), (119, undef), (115, .bool true)]) ⟨rfl, rfl, rfl, trivial⟩
              exact Sx.step_off rfl (Sx.guard_known (d := 115) (b := true) F rfl rfl) rfl ⟨(fun cv hc => Option.some.inj (Option.some.inj hc)), H⟩
            · show Sx.StepAt _ _ _ _ _ _ _ 34
              intro L A w up hun hd F H
              have F := Sx.Fr.to F (kv' := [(120, undef), (115, .bool true)]) ⟨rfl, rfl, trivial⟩
              exact Sx.step_off rfl (Sx.guard_known (d := 115) (b := true) F rfl rfl) rfl ⟨(fun cv hc => Option.some.inj (Option.some.inj hc)), H⟩
            · show Sx.StepAt _ _ _ _ _ _ _ 35
              intro L A w up hun hd F H
              have F := Sx.Fr.to F (kv' := [(121, undef), (115, .bool true)]) ⟨rfl, rfl, trivial⟩
              exact Sx.step_off rfl (Sx.guard_known (d := 115) (b := true) F rfl rfl) rfl ⟨(fun cv hc => Option.some.inj (Option.some.inj hc)), H⟩
            · show Sx.StepAt _ _ _ _ _ _ _ 36
              intro L A w up hun hd F H
              have F := Sx.Fr.to F (kv' := [(3, .pointer (some ⟨g1, 0, none⟩)), (122, undef)]) ⟨rfl, rfl, trivial⟩
              exact Sx.step_offU rfl (Sx.guard_undef (d := 122) F rfl rfl) ⟨(fun cv hc => Option.some.inj (Option.some.inj hc)), H⟩
            · show Sx.StepAt _ _ _ _ _ _ _ 37
              intro L A w up hun hd F H
              have F := Sx.Fr.to F (kv' := [(3, .pointer (some ⟨g1, 0, none⟩)), (122, undef)]) ⟨rfl, rfl, trivial⟩
              exact Sx.step_offU rfl (Sx.guard_undef (d := 122) F rfl rfl) ⟨(fun cv hc => Option.some.inj (Option.some.inj hc)), H⟩
            · show Sx.StepAt _ _ _ _ _ _ _ 38
              intro L A w up hun hd F H
              have F := Sx.Fr.to F (kv' := [(124, undef), (122, undef)]) ⟨rfl, rfl, trivial⟩
              exact Sx.step_offU rfl (Sx.guard_undef (d := 122) F rfl rfl) ⟨(fun cv hc => Option.some.inj (Option.some.inj hc)), H⟩
            · show Sx.StepAt _ _ _ _ _ _ _ 39
              intro L A w up hun hd F H
              have F := Sx.Fr.to F (kv' := [(123, undef), (125, undef), (122, undef)]) ⟨rfl, rfl, rfl, trivial⟩
              exact Sx.step_offU rfl (Sx.guard_undef (d := 122) F rfl rfl) ⟨(fun cv hc => Option.some.inj (Option.some.inj hc)), H⟩
            · show Sx.StepAt _ _ _ _ _ _ _ 40
              intro L A w up hun hd F H
              have F := Sx.Fr.to F (kv' := [(122, undef)]) ⟨rfl, trivial⟩
              exact Sx.step_offU rfl (Sx.guard_undef (d := 122) F rfl rfl) ⟨(fun cv hc => Option.some.inj (Option.some.inj hc)), H⟩
            · show Sx.StepAt _ _ _ _ _ _ _ 41
              intro L A w up hun hd F H
              have F := Sx.Fr.to F (kv' := [(126, undef), (127, undef), (122, undef)]) ⟨rfl, rfl, rfl, trivial⟩
              exact Sx.step_offU rfl (Sx.guard_undef (d := 122) F rfl rfl) ⟨(fun cv hc => Option.some.inj (Option.some.inj hc)), H⟩
            · show Sx.StepAt _ _ _ _ _ _ _ 42
              intro L A w up hun hd F H
              have F := Sx.Fr.to F (kv' := [(122, undef), (128, undef), (115, .bool true)]) ⟨rfl, rfl, rfl, trivial⟩
              exact Sx.step_off rfl (Sx.guard_known (d := 115) (b := true) F rfl rfl) rfl ⟨(fun cv hc => Option.some.inj (Option.some.inj hc)), H⟩
            · show Sx.StepAt _ _ _ _ _ _ _ 43
              intro L A w up hun hd F H
              have F := Sx.Fr.to F (kv' := [(115, .bool true), (129, undef), (111, .bool true)]) ⟨rfl, rfl, rfl, trivial⟩
              refine Sx.step_ong rfl (Sx.guard_known (d := 111) (b := true) F rfl rfl) rfl (Sx.d_pickT (v := .bool true) F rfl rfl rfl) ?_
              rintro xv w' ⟨hx, rfl⟩
              exact ⟨(fun cv hc => hx.trans (Option.some.inj (Option.some.inj hc))), H⟩
            · show Sx.StepAt _ _ _ _ _ _ _ 44
              intro L A w up hun hd F H
              have F := Sx.Fr.to F (kv' := [(111, .bool true), (130, .bool true)]) ⟨rfl, rfl, trivial⟩
              refine Sx.step_on rfl (Sx.d_pickT (v := .bool true) F rfl rfl rfl) ?_
              rintro xv w' ⟨hx, rfl⟩
              exact ⟨(fun cv hc => hx.trans (Option.some.inj (Option.some.inj hc))), H⟩
            · show Sx.StepAt _ _ _ _ _ _ _ 45
              intro L A w up hun hd F H
              have F := Sx.Fr.to F (kv' := [(131, .bool true)]) ⟨rfl, trivial⟩
              refine Sx.step_on rfl (Sx.d_move F (Or.inr rfl) rfl) ?_
              rintro xv w' ⟨hx, rfl⟩
              exact ⟨(fun cv hc => hx.trans (Option.some.inj (Option.some.inj hc))), H⟩
          · intro L A w hL F H
            have F := Sx.Fr.to F (kv' := [(6, .bool true)]) ⟨rfl, trivial⟩
            refine hK9 _ _ ?_
            refine wp_ret ?_
            try dsimp only [Exit.then, Exit.inBlock, Exit.jump]
            refine Sx.ret1 F Try.results4 (Sx.res_tmp (v := .bool true) F rfl) ⟨?_, H.below⟩
            rfl
        · skip
          have hle := Bi.len_le da
          refine Sx.seq (fun K10 hK10 => ?_)
          have F := Sx.Fr.to F (kv' := [(1, .int .u8 n), (2, .int .u8 m), (3, .pointer (some ⟨g1, 0, none⟩))]) ⟨rfl, rfl, rfl, trivial⟩
          refine Sx.drawn F (by kernel_rfl) (by kernel_rfl) (by kernel_rfl) [some (.agg #[.int .u64 ((Wd.hi da).toNat), .int .u64 ((Wd.lo da).toNat)]), some (.int .u8 n), some (.int .i64 n), some (.agg #[.int .u64 ((Wd.hi (da >>> n)).toNat), .int .u64 ((Wd.lo (da >>> n)).toNat)]), some (.int .u8 m), some (.int .i64 m), some (.int .i64 (Wd.bit (da >>> n) m)), some (.agg #[.int .u64 ((Wd.hi da).toNat), .int .u64 ((Wd.lo da).toNat)]), some (.int .u8 n), some (.int .i64 n), some (.int .u8 m), some (.int .i64 m), some (.int .i64 (n + m : Nat)), some (.int .i64 (Wd.bit da (n + m))), some (.bool true), some (.bool true), some (.agg #[.int .u64 ((Wd.hi da).toNat), .int .u64 ((Wd.lo da).toNat)]), some (.int .i64 (Bi.len da)), some (.bool false), some (.agg #[.int .u64 ((Wd.hi da).toNat), .int .u64 ((Wd.lo da).toNat)]), some (.agg #[.int .u64 ((Wd.hi 0#128).toNat), .int .u64 ((Wd.lo 0#128).toNat)]), some (.bool false), some (.bool true), some (.bool true), some (.bool true), some (.agg #[.int .u64 ((Wd.hi da).toNat), .int .u64 ((Wd.lo da).toNat)]), some (.int .i64 (Bi.len da)), some (.bool false), some (.bool false), some (.agg #[.int .u64 ((Wd.hi da).toNat), .int .u64 ((Wd.lo da).toNat)]), some (.agg #[.int .u64 ((Wd.hi da).toNat), .int .u64 ((Wd.lo da).toNat)]), some (.int .i64 (Bi.len da)), some (.int .i64 (Bi.len da - 1 : Nat)), some (.int .i64 (Wd.bit da (Bi.len da - 1))), some (.bool true), some (.bool true), some (.agg #[.int .u64 ((Wd.hi da).toNat), .int .u64 ((Wd.lo da).toNat)]), some (.agg #[.int .u64 ((Wd.hi da).toNat), .int .u64 ((Wd.lo da).toNat)]), some (.int .i64 (Bi.len da)), some (.agg #[.int .u64 ((Wd.hi (da >>> (Bi.len da))).toNat), .int .u64 ((Wd.lo (da >>> (Bi.len da))).toNat)]), some (.agg #[.int .u64 ((Wd.hi 0#128).toNat), .int .u64 ((Wd.lo 0#128).toNat)]), some (.bool true), some (.bool true), some (.bool true), some (.bool true), some (.bool true)] (fun L A w => Sx.Own w0 w [(true, g2, [.int .u64 ((Wd.hi (1#128 <<< n)).toNat), .int .u64 ((Wd.lo (1#128 <<< n)).toNat)]), (true, g1, [.int .u64 ((Wd.hi da).toNat), .int .u64 ((Wd.lo da).toNat)]), (true, g3, [.int .u64 ((Wd.hi (da - ((da >>> n) <<< n))).toNat), .int .u64 ((Wd.lo (da - ((da >>> n) <<< n))).toNat)])] []) H.drew ?_ ?_
          · refine ⟨?_, ?_, ?_, ?_, ?_, ?_, ?_, ?_, ?_, ?_, ?_, ?_, ?_, ?_, ?_, ?_, ?_, ?_, ?_, ?_, ?_, ?_, ?_, ?_, ?_, ?_, ?_, ?_, ?_, ?_, ?_, ?_, ?_, ?_, ?_, ?_, ?_, ?_, ?_, ?_, ?_, ?_, ?_, ?_, ?_, ?_, trivial⟩
            · show Sx.StepAt _ _ _ _ _ _ _ 0
              intro L A w up hun hd F H
              have F := Sx.Fr.to F (kv' := [(3, .pointer (some ⟨g1, 0, none⟩))]) ⟨rfl, trivial⟩
              refine Sx.step_on rfl (Sx.d_load (i := 1) (xs := [.int .u64 ((Wd.hi da).toNat), .int .u64 ((Wd.lo da).toNat)]) rw_24 F H rfl rfl rfl rfl rfl) ?_
              rintro xv w' ⟨hx, rfl⟩
              exact ⟨(fun cv hc => hx.trans (Option.some.inj (Option.some.inj hc))), H⟩
            · show Sx.StepAt _ _ _ _ _ _ _ 1
              intro L A w up hun hd F H
              have F := Sx.Fr.to F (kv' := [(1, .int .u8 n)]) ⟨rfl, trivial⟩
              refine Sx.step_on rfl (Sx.d_move F (Or.inl rfl) rfl) ?_
              rintro xv w' ⟨hx, rfl⟩
              exact ⟨(fun cv hc => hx.trans (Option.some.inj (Option.some.inj hc))), H⟩
            · show Sx.StepAt _ _ _ _ _ _ _ 2
              intro L A w up hun hd F H
              have F := Sx.Fr.to F (kv' := [(88, .int .u8 n)]) ⟨rfl, trivial⟩
              refine Sx.step_on rfl (Sx.d_conv (v := .int .i64 n) F rfl rfl (Sx.c_u8_i64 n (by omega))) ?_
              rintro xv w' ⟨hx, rfl⟩
              exact ⟨(fun cv hc => hx.trans (Option.some.inj (Option.some.inj hc))), H⟩
            · show Sx.StepAt _ _ _ _ _ _ _ 3
              intro L A w up hun hd F H
              have F := Sx.Fr.to F (kv' := [(87, .agg #[.int .u64 ((Wd.hi da).toNat), .int .u64 ((Wd.lo da).toNat)]), (89, .int .i64 n)]) ⟨rfl, rfl, trivial⟩
              refine Sx.step_on rfl (Sx.d_call (vs := [.agg #[.int .u64 ((Wd.hi da).toNat), .int .u64 ((Wd.lo da).toNat)], .int .i64 n]) (v := .agg #[.int .u64 ((Wd.hi (da >>> n)).toNat), .int .u64 ((Wd.lo (da >>> n)).toNat)]) if_16 F H rfl rfl (wrightN_c da n (by omega) _)) ?_
              rintro xv w' ⟨hx, H⟩
              exact ⟨(fun cv hc => hx.trans (Option.some.inj (Option.some.inj hc))), H⟩
            · show Sx.StepAt _ _ _ _ _ _ _ 4
              intro L A w up hun hd F H
              have F := Sx.Fr.to F (kv' := [(2, .int .u8 m)]) ⟨rfl, trivial⟩
              refine Sx.step_on rfl (Sx.d_move F (Or.inl rfl) rfl) ?_
              rintro xv w' ⟨hx, rfl⟩
              exact ⟨(fun cv hc => hx.trans (Option.some.inj (Option.some.inj hc))), H⟩
            · show Sx.StepAt _ _ _ _ _ _ _ 5
              intro L A w up hun hd F H
              have F := Sx.Fr.to F (kv' := [(91, .int .u8 m)]) ⟨rfl, trivial⟩
              refine Sx.step_on rfl (Sx.d_conv (v := .int .i64 m) F rfl rfl (Sx.c_u8_i64 m (by omega))) ?_
              rintro xv w' ⟨hx, rfl⟩
              exact ⟨(fun cv hc => hx.trans (Option.some.inj (Option.some.inj hc))), H⟩
            · show Sx.StepAt _ _ _ _ _ _ _ 6
              intro L A w up hun hd F H
              have F := Sx.Fr.to F (kv' := [(90, .agg #[.int .u64 ((Wd.hi (da >>> n)).toNat), .int .u64 ((Wd.lo (da >>> n)).toNat)]), (92, .int .i64 m)]) ⟨rfl, rfl, trivial⟩
              refine Sx.step_on rfl (Sx.d_call (vs := [.agg #[.int .u64 ((Wd.hi (da >>> n)).toNat), .int .u64 ((Wd.lo (da >>> n)).toNat)], .int .i64 m]) (v := .int .i64 (Wd.bit (da >>> n) m)) if_18 F H rfl rfl (wbit_c (da >>> n) m (by omega) _)) ?_
              rintro xv w' ⟨hx, H⟩
              exact ⟨(fun cv hc => hx.trans (Option.some.inj (Option.some.inj hc))), H⟩
            · show Sx.StepAt _ _ _ _ _ _ _ 7
              intro L A w up hun hd F H
              have F := Sx.Fr.to F (kv' := [(3, .pointer (some ⟨g1, 0, none⟩))]) ⟨rfl, trivial⟩
              refine Sx.step_on rfl (Sx.d_load (i := 1) (xs := [.int .u64 ((Wd.hi da).toNat), .int .u64 ((Wd.lo da).toNat)]) rw_24 F H rfl rfl rfl rfl rfl) ?_
              rintro xv w' ⟨hx, rfl⟩
              exact ⟨(fun cv hc => hx.trans (Option.some.inj (Option.some.inj hc))), H⟩
            · show Sx.StepAt _ _ _ _ _ _ _ 8
              intro L A w up hun hd F H
              have F := Sx.Fr.to F (kv' := [(1, .int .u8 n)]) ⟨rfl, trivial⟩
              refine Sx.step_on rfl (Sx.d_move F (Or.inl rfl) rfl) ?_
              rintro xv w' ⟨hx, rfl⟩
              exact ⟨(fun cv hc => hx.trans (Option.some.inj (Option.some.inj hc))), H⟩
            · show Sx.StepAt _ _ _ _ _ _ _ 9
              intro L A w up hun hd F H
              have F := Sx.Fr.to F (kv' := [(95, .int .u8 n)]) ⟨rfl, trivial⟩
              refine Sx.step_on rfl (Sx.d_conv (v := .int .i64 n) F rfl rfl (Sx.c_u8_i64 n (by omega))) ?_
              rintro xv w' ⟨hx, rfl⟩
              exact ⟨(fun cv hc => hx.trans (Option.some.inj (Option.some.inj hc))), H⟩
            · show Sx.StepAt _ _ _ _ _ _ _ 10
              intro L A w up hun hd F H
              have F := Sx.Fr.to F (kv' := [(2, .int .u8 m)]) ⟨rfl, trivial⟩
              refine Sx.step_on rfl (Sx.d_move F (Or.inl rfl) rfl) ?_
              rintro xv w' ⟨hx, rfl⟩
              exact ⟨(fun cv hc => hx.trans (Option.some.inj (Option.some.inj hc))), H⟩
            · show Sx.StepAt _ _ _ _ _ _ _ 11
              intro L A w up hun hd F H
              have F := Sx.Fr.to F (kv' := [(97, .int .u8 m)]) ⟨rfl, trivial⟩
              refine Sx.step_on rfl (Sx.d_conv (v := .int .i64 m) F rfl rfl (Sx.c_u8_i64 m (by omega))) ?_
              rintro xv w' ⟨hx, rfl⟩
              exact ⟨(fun cv hc => hx.trans (Option.some.inj (Option.some.inj hc))), H⟩
            · show Sx.StepAt _ _ _ _ _ _ _ 12
              intro L A w up hun hd F H
              have F := Sx.Fr.to F (kv' := [(96, .int .i64 n), (98, .int .i64 m)]) ⟨rfl, rfl, trivial⟩
              refine Sx.step_on rfl (Sx.d_bin (v := .int .i64 (n + m : Nat)) F rfl rfl rfl (Sx.i_addN rfl (Sx.in_i64 _ (by omega)))) ?_
              rintro xv w' ⟨hx, rfl⟩
              exact ⟨(fun cv hc => hx.trans (Option.some.inj (Option.some.inj hc))), H⟩
            · show Sx.StepAt _ _ _ _ _ _ _ 13
              intro L A w up hun hd F H
              have F := Sx.Fr.to F (kv' := [(94, .agg #[.int .u64 ((Wd.hi da).toNat), .int .u64 ((Wd.lo da).toNat)]), (99, .int .i64 (n + m : Nat))]) ⟨rfl, rfl, trivial⟩
              refine Sx.step_on rfl (Sx.d_call (vs := [.agg #[.int .u64 ((Wd.hi da).toNat), .int .u64 ((Wd.lo da).toNat)], .int .i64 (n + m : Nat)]) (v := .int .i64 (Wd.bit da (n + m))) if_18 F H rfl rfl (wbit_c da (n + m) (by omega) _)) ?_
              rintro xv w' ⟨hx, H⟩
              exact ⟨(fun cv hc => hx.trans (Option.some.inj (Option.some.inj hc))), H⟩
            · show Sx.StepAt _ _ _ _ _ _ _ 14
              intro L A w up hun hd F H
              have F := Sx.Fr.to F (kv' := [(93, .int .i64 (Wd.bit (da >>> n) m)), (100, .int .i64 (Wd.bit da (n + m)))]) ⟨rfl, rfl, trivial⟩
              refine Sx.step_on rfl (Sx.d_bin (v := .bool true) F rfl rfl rfl (Sx.i_eq (beq_iff_eq.2 (congrArg Int.ofNat (Wd.bit_right da n m))))) ?_
              rintro xv w' ⟨hx, rfl⟩
              exact ⟨(fun cv hc => hx.trans (Option.some.inj (Option.some.inj hc))), H⟩
            · show Sx.StepAt _ _ _ _ _ _ _ 15
              intro L A w up hun hd F H
              have F := Sx.Fr.to F (kv' := [(101, .bool true)]) ⟨rfl, trivial⟩
              refine Sx.step_on rfl (Sx.d_move F (Or.inl rfl) rfl) ?_
              rintro xv w' ⟨hx, rfl⟩
              exact ⟨(fun cv hc => hx.trans (Option.some.inj (Option.some.inj hc))), H⟩
            · show Sx.StepAt _ _ _ _ _ _ _ 16
              intro L A w up hun hd F H
              have F := Sx.Fr.to F (kv' := [(3, .pointer (some ⟨g1, 0, none⟩)), (102, .bool true)]) ⟨rfl, rfl, trivial⟩
              refine Sx.step_ong rfl (Sx.guard_known (d := 102) (b := true) F rfl rfl) rfl (Sx.d_load (i := 1) (xs := [.int .u64 ((Wd.hi da).toNat), .int .u64 ((Wd.lo da).toNat)]) rw_24 F H rfl rfl rfl rfl rfl) ?_
              rintro xv w' ⟨hx, rfl⟩
              exact ⟨(fun cv hc => hx.trans (Option.some.inj (Option.some.inj hc))), H⟩
            · show Sx.StepAt _ _ _ _ _ _ _ 17
              intro L A w up hun hd F H
              have F := Sx.Fr.to F (kv' := [(103, .agg #[.int .u64 ((Wd.hi da).toNat), .int .u64 ((Wd.lo da).toNat)]), (102, .bool true)]) ⟨rfl, rfl, trivial⟩
              refine Sx.step_ong rfl (Sx.guard_known (d := 102) (b := true) F rfl rfl) rfl (Sx.d_call (vs := [.agg #[.int .u64 ((Wd.hi da).toNat), .int .u64 ((Wd.lo da).toNat)]]) (v := .int .i64 (Bi.len da)) if_19 F H rfl rfl (wlen_c da _)) ?_
              rintro xv w' ⟨hx, H⟩
              exact ⟨(fun cv hc => hx.trans (Option.some.inj (Option.some.inj hc))), H⟩
            · show Sx.StepAt _ _ _ _ _ _ _ 18
              intro L A w up hun hd F H
              have F := Sx.Fr.to F (kv' := [(104, .int .i64 (Bi.len da)), (102, .bool true)]) ⟨rfl, rfl, trivial⟩
              refine Sx.step_ong rfl (Sx.guard_known (d := 102) (b := true) F rfl rfl) rfl (Sx.d_bin (v := .bool false) F rfl rfl rfl (Sx.i_eq (beq_false_of_ne (by omega)))) ?_
              rintro xv w' ⟨hx, rfl⟩
              exact ⟨(fun cv hc => hx.trans (Option.some.inj (Option.some.inj hc))), H⟩
            · show Sx.StepAt _ _ _ _ _ _ _ 19
              intro L A w up hun hd F H
              have F := Sx.Fr.to F (kv' := [(3, .pointer (some ⟨g1, 0, none⟩)), (102, .bool true)]) ⟨rfl, rfl, trivial⟩
              refine Sx.step_ong rfl (Sx.guard_known (d := 102) (b := true) F rfl rfl) rfl (Sx.d_load (i := 1) (xs := [.int .u64 ((Wd.hi da).toNat), .int .u64 ((Wd.lo da).toNat)]) rw_24 F H rfl rfl rfl rfl rfl) ?_
              rintro xv w' ⟨hx, rfl⟩
              exact ⟨(fun cv hc => hx.trans (Option.some.inj (Option.some.inj hc))), H⟩
            · show Sx.StepAt _ _ _ _ _ _ _ 20
              intro L A w up hun hd F H
              have F := Sx.Fr.to F (kv' := [(102, .bool true)]) ⟨rfl, trivial⟩
              refine Sx.step_ong rfl (Sx.guard_known (d := 102) (b := true) F rfl rfl) rfl (Sx.d_build (qs := #[]) (v := .agg #[.int .u64 ((Wd.hi 0#128).toNat), .int .u64 ((Wd.lo 0#128).toNat)]) F rfl rfl (by kernel_rfl)) ?_
              rintro xv w' ⟨hx, rfl⟩
              exact ⟨(fun cv hc => hx.trans (Option.some.inj (Option.some.inj hc))), H⟩
            · show Sx.StepAt _ _ _ _ _ _ _ 21
              intro L A w up hun hd F H
              have F := Sx.Fr.to F (kv' := [(106, .agg #[.int .u64 ((Wd.hi da).toNat), .int .u64 ((Wd.lo da).toNat)]), (107, .agg #[.int .u64 ((Wd.hi 0#128).toNat), .int .u64 ((Wd.lo 0#128).toNat)]), (102, .bool true)]) ⟨rfl, rfl, rfl, trivial⟩
              refine Sx.step_ong rfl (Sx.guard_known (d := 102) (b := true) F rfl rfl) rfl (Sx.d_bin (v := .bool false) F rfl rfl rfl (Sx.i_eqV (decide_eq_false (fun h => hz ((Bi.len_zero da).2 h))))) ?_
              rintro xv w' ⟨hx, rfl⟩
              exact ⟨(fun cv hc => hx.trans (Option.some.inj (Option.some.inj hc))), H⟩
            · show Sx.StepAt _ _ _ _ _ _ _ 22
              intro L A w up hun hd F H
              have F := Sx.Fr.to F (kv' := [(105, .bool false), (108, .bool false), (102, .bool true)]) ⟨rfl, rfl, rfl, trivial⟩
              refine Sx.step_ong rfl (Sx.guard_known (d := 102) (b := true) F rfl rfl) rfl (Sx.d_bin (v := .bool true) F rfl rfl rfl (Sx.b_eq (by simp))) ?_
              rintro xv w' ⟨hx, rfl⟩
              exact ⟨(fun cv hc => hx.trans (Option.some.inj (Option.some.inj hc))), H⟩
            · show Sx.StepAt _ _ _ _ _ _ _ 23
              intro L A w up hun hd F H
              have F := Sx.Fr.to F (kv' := [(102, .bool true), (109, .bool true)]) ⟨rfl, rfl, trivial⟩
              refine Sx.step_on rfl (Sx.d_pickT (v := .bool true) F rfl rfl rfl) ?_
              rintro xv w' ⟨hx, rfl⟩
              exact ⟨(fun cv hc => hx.trans (Option.some.inj (Option.some.inj hc))), H⟩
            · show Sx.StepAt _ _ _ _ _ _ _ 24
              intro L A w up hun hd F H
              have F := Sx.Fr.to F (kv' := [(110, .bool true)]) ⟨rfl, trivial⟩
              refine Sx.step_on rfl (Sx.d_move F (Or.inl rfl) rfl) ?_
              rintro xv w' ⟨hx, rfl⟩
              exact ⟨(fun cv hc => hx.trans (Option.some.inj (Option.some.inj hc))), H⟩
            · show Sx.StepAt _ _ _ _ _ _ _ 25
              intro L A w up hun hd F H
              have F := Sx.Fr.to F (kv' := [(3, .pointer (some ⟨g1, 0, none⟩)), (111, .bool true)]) ⟨rfl, rfl, trivial⟩
              refine Sx.step_ong rfl (Sx.guard_known (d := 111) (b := true) F rfl rfl) rfl (Sx.d_load (i := 1) (xs := [.int .u64 ((Wd.hi da).toNat), .int .u64 ((Wd.lo da).toNat)]) rw_24 F H rfl rfl rfl rfl rfl) ?_
              rintro xv w' ⟨hx, rfl⟩
              exact ⟨(fun cv hc => hx.trans (Option.some.inj (Option.some.inj hc))), H⟩
            · show Sx.StepAt _ _ _ _ _ _ _ 26
              intro L A w up hun hd F H
              have F := Sx.Fr.to F (kv' := [(112, .agg #[.int .u64 ((Wd.hi da).toNat), .int .u64 ((Wd.lo da).toNat)]), (111, .bool true)]) ⟨rfl, rfl, trivial⟩
              refine Sx.step_ong rfl (Sx.guard_known (d := 111) (b := true) F rfl rfl) rfl (Sx.d_call (vs := [.agg #[.int .u64 ((Wd.hi da).toNat), .int .u64 ((Wd.lo da).toNat)]]) (v := .int .i64 (Bi.len da)) if_19 F H rfl rfl (wlen_c da _)) ?_
              rintro xv w' ⟨hx, H⟩
              exact ⟨(fun cv hc => hx.trans (Option.some.inj (Option.some.inj hc))), H⟩
            · show Sx.StepAt _ _ _ _ _ _ _ 27
              intro L A w up hun hd F H
              have F := Sx.Fr.to F (kv' := [(113, .int .i64 (Bi.len da)), (111, .bool true)]) ⟨rfl, rfl, trivial⟩
              refine Sx.step_ong rfl (Sx.guard_known (d := 111) (b := true) F rfl rfl) rfl (Sx.d_bin (v := .bool false) F rfl rfl rfl (Sx.i_eq (beq_false_of_ne (by omega)))) ?_
              rintro xv w' ⟨hx, rfl⟩
              exact ⟨(fun cv hc => hx.trans (Option.some.inj (Option.some.inj hc))), H⟩
            · show Sx.StepAt _ _ _ _ _ _ _ 28
              intro L A w up hun hd F H
              have F := Sx.Fr.to F (kv' := [(114, .bool false), (111, .bool true)]) ⟨rfl, rfl, trivial⟩
              refine Sx.step_ong rfl (Sx.guard_known (d := 111) (b := true) F rfl rfl) rfl (Sx.d_move F (Or.inl rfl) rfl) ?_
              rintro xv w' ⟨hx, rfl⟩
              exact ⟨(fun cv hc => hx.trans (Option.some.inj (Option.some.inj hc))), H⟩
            · show Sx.StepAt _ _ _ _ _ _ _ 29
              intro L A w up hun hd F H
              have F := Sx.Fr.to F (kv' := [(3, .pointer (some ⟨g1, 0, none⟩)), (115, .bool false)]) ⟨rfl, rfl, trivial⟩
              refine Sx.step_ong rfl (Sx.guard_known (d := 115) (b := false) F rfl rfl) rfl (Sx.d_load (i := 1) (xs := [.int .u64 ((Wd.hi da).toNat), .int .u64 ((Wd.lo da).toNat)]) rw_24 F H rfl rfl rfl rfl rfl) ?_
              rintro xv w' ⟨hx, rfl⟩
              exact ⟨(fun cv hc => hx.trans (Option.some.inj (Option.some.inj hc))), H⟩
            · show Sx.StepAt _ _ _ _ _ _ _ 30
              intro L A w up hun hd F H
              have F := Sx.Fr.to F (kv' := [(3, .pointer (some ⟨g1, 0, none⟩)), (115, .bool false)]) ⟨rfl, rfl, trivial⟩
              refine Sx.step_ong rfl (Sx.guard_known (d := 115) (b := false) F rfl rfl) rfl (Sx.d_load (i := 1) (xs := [.int .u64 ((Wd.hi da).toNat), .int .u64 ((Wd.lo da).toNat)]) rw_24 F H rfl rfl rfl rfl rfl) ?_
              rintro xv w' ⟨hx, rfl⟩
              exact ⟨(fun cv hc => hx.trans (Option.some.inj (Option.some.inj hc))), H⟩
            · show Sx.StepAt _ _ _ _ _ _ _ 31
              intro L A w up hun hd F H
              have F := Sx.Fr.to F (kv' := [(117, .agg #[.int .u64 ((Wd.hi da).toNat), .int .u64 ((Wd.lo da).toNat)]), (115, .bool false)]) ⟨rfl, rfl, trivial⟩
              refine Sx.step_ong rfl (Sx.guard_known (d := 115) (b := false) F rfl rfl) rfl (Sx.d_call (vs := [.agg #[.int .u64 ((Wd.hi da).toNat), .int .u64 ((Wd.lo da).toNat)]]) (v := .int .i64 (Bi.len da)) if_19 F H rfl rfl (wlen_c da _)) ?_
              rintro xv w' ⟨hx, H⟩
              exact ⟨(fun cv hc => hx.trans (Option.some.inj (Option.some.inj hc))), H⟩
            · show Sx.StepAt _ _ _ _ _ _ _ 32
              intro L A w up hun hd F H
              have F := Sx.Fr.to F (kv' := [(118, .int .i64 (Bi.len da)), (115, .bool false)]) ⟨rfl, rfl, trivial⟩
              refine Sx.step_ong rfl (Sx.guard_known (d := 115) (b := false) F rfl rfl) rfl (Sx.d_bin (v := .int .i64 (Bi.len da - 1 : Nat)) F rfl rfl rfl (Sx.i_subS (by rw [Sx.in64 _ (by have := Bi.len_le da; omega)]; omega))) ?_
              rintro xv w' ⟨hx, rfl⟩
              exact ⟨(fun cv hc => hx.trans (Option.some.inj (Option.some.inj hc))), H⟩
            · show Sx.StepAt _ _ _ _ _ _ _ 33
              intro L A w up hun hd F H
              have F := Sx.Fr.to F (kv' := [(116, .agg #[.int .u64 ((Wd.hi da).toNat), .int .u64 ((Wd.lo da).toNat)]), (119, .int .i64 (Bi.len da - 1 : Nat)), (115, .bool false)]) ⟨rfl, rfl, rfl, trivial⟩
              refine Sx.step_ong rfl (Sx.guard_known (d := 115) (b := false) F rfl rfl) rfl (Sx.d_call (vs := [.agg #[.int .u64 ((Wd.hi da).toNat), .int .u64 ((Wd.lo da).toNat)], .int .i64 (Bi.len da - 1 : Nat)]) (v := .int .i64 (Wd.bit da (Bi.len da - 1))) if_18 F H rfl rfl (wbit_c da (Bi.len da - 1) (by omega) _)) ?_
              rintro xv w' ⟨hx, H⟩
              exact ⟨(fun cv hc => hx.trans (Option.some.inj (Option.some.inj hc))), H⟩
            · show Sx.StepAt _ _ _ _ _ _ _ 34
              intro L A w up hun hd F H
              have F := Sx.Fr.to F (kv' := [(120, .int .i64 (Wd.bit da (Bi.len da - 1))), (115, .bool false)]) ⟨rfl, rfl, trivial⟩
              refine Sx.step_ong rfl (Sx.guard_known (d := 115) (b := false) F rfl rfl) rfl (Sx.d_bin (v := .bool true) F rfl rfl rfl (Sx.i_eq (beq_iff_eq.2 (congrArg Int.ofNat (Wd.bit_top da hz))))) ?_
              rintro xv w' ⟨hx, rfl⟩
              exact ⟨(fun cv hc => hx.trans (Option.some.inj (Option.some.inj hc))), H⟩
            · show Sx.StepAt _ _ _ _ _ _ _ 35
              intro L A w up hun hd F H
              have F := Sx.Fr.to F (kv' := [(121, .bool true), (115, .bool false)]) ⟨rfl, rfl, trivial⟩
              refine Sx.step_ong rfl (Sx.guard_known (d := 115) (b := false) F rfl rfl) rfl (Sx.d_move F (Or.inl rfl) rfl) ?_
              rintro xv w' ⟨hx, rfl⟩
              exact ⟨(fun cv hc => hx.trans (Option.some.inj (Option.some.inj hc))), H⟩
            · show Sx.StepAt _ _ _ _ _ _ _ 36
              intro L A w up hun hd F H
              have F := Sx.Fr.to F (kv' := [(3, .pointer (some ⟨g1, 0, none⟩)), (122, .bool true)]) ⟨rfl, rfl, trivial⟩
              refine Sx.step_ong rfl (Sx.guard_known (d := 122) (b := true) F rfl rfl) rfl (Sx.d_load (i := 1) (xs := [.int .u64 ((Wd.hi da).toNat), .int .u64 ((Wd.lo da).toNat)]) rw_24 F H rfl rfl rfl rfl rfl) ?_
              rintro xv w' ⟨hx, rfl⟩
              exact ⟨(fun cv hc => hx.trans (Option.some.inj (Option.some.inj hc))), H⟩
            · show Sx.StepAt _ _ _ _ _ _ _ 37
              intro L A w up hun hd F H
              have F := Sx.Fr.to F (kv' := [(3, .pointer (some ⟨g1, 0, none⟩)), (122, .bool true)]) ⟨rfl, rfl, trivial⟩
              refine Sx.step_ong rfl (Sx.guard_known (d := 122) (b := true) F rfl rfl) rfl (Sx.d_load (i := 1) (xs := [.int .u64 ((Wd.hi da).toNat), .int .u64 ((Wd.lo da).toNat)]) rw_24 F H rfl rfl rfl rfl rfl) ?_
              rintro xv w' ⟨hx, rfl⟩
              exact ⟨(fun cv hc => hx.trans (Option.some.inj (Option.some.inj hc))), H⟩
            · show Sx.StepAt _ _ _ _ _ _ _ 38
              intro L A w up hun hd F H
              have F := Sx.Fr.to F (kv' := [(124, .agg #[.int .u64 ((Wd.hi da).toNat), .int .u64 ((Wd.lo da).toNat)]), (122, .bool true)]) ⟨rfl, rfl, trivial⟩
              refine Sx.step_ong rfl (Sx.guard_known (d := 122) (b := true) F rfl rfl) rfl (Sx.d_call (vs := [.agg #[.int .u64 ((Wd.hi da).toNat), .int .u64 ((Wd.lo da).toNat)]]) (v := .int .i64 (Bi.len da)) if_19 F H rfl rfl (wlen_c da _)) ?_
              rintro xv w' ⟨hx, H⟩
              exact ⟨(fun cv hc => hx.trans (Option.some.inj (Option.some.inj hc))), H⟩
            · show Sx.StepAt _ _ _ _ _ _ _ 39
              intro L A w up hun hd F H
              have F := Sx.Fr.to F (kv' := [(123, .agg #[.int .u64 ((Wd.hi da).toNat), .int .u64 ((Wd.lo da).toNat)]), (125, .int .i64 (Bi.len da)), (122, .bool true)]) ⟨rfl, rfl, rfl, trivial⟩
              refine Sx.step_ong rfl (Sx.guard_known (d := 122) (b := true) F rfl rfl) rfl (Sx.d_call (vs := [.agg #[.int .u64 ((Wd.hi da).toNat), .int .u64 ((Wd.lo da).toNat)], .int .i64 (Bi.len da)]) (v := .agg #[.int .u64 ((Wd.hi (da >>> (Bi.len da))).toNat), .int .u64 ((Wd.lo (da >>> (Bi.len da))).toNat)]) if_16 F H rfl rfl (wrightN_c da (Bi.len da) (by omega) _)) ?_
              rintro xv w' ⟨hx, H⟩
              exact ⟨(fun cv hc => hx.trans (Option.some.inj (Option.some.inj hc))), H⟩
            · show Sx.StepAt _ _ _ _ _ _ _ 40
              intro L A w up hun hd F H
              have F := Sx.Fr.to F (kv' := [(122, .bool true)]) ⟨rfl, trivial⟩
              refine Sx.step_ong rfl (Sx.guard_known (d := 122) (b := true) F rfl rfl) rfl (Sx.d_build (qs := #[]) (v := .agg #[.int .u64 ((Wd.hi 0#128).toNat), .int .u64 ((Wd.lo 0#128).toNat)]) F rfl rfl (by kernel_rfl)) ?_
              rintro xv w' ⟨hx, rfl⟩
              exact ⟨(fun cv hc => hx.trans (Option.some.inj (Option.some.inj hc))), H⟩
            · show Sx.StepAt _ _ _ _ _ _ _ 41
              intro L A w up hun hd F H
              have F := Sx.Fr.to F (kv' := [(126, .agg #[.int .u64 ((Wd.hi (da >>> (Bi.len da))).toNat), .int .u64 ((Wd.lo (da >>> (Bi.len da))).toNat)]), (127, .agg #[.int .u64 ((Wd.hi 0#128).toNat), .int .u64 ((Wd.lo 0#128).toNat)]), (122, .bool true)]) ⟨rfl, rfl, rfl, trivial⟩
              refine Sx.step_ong rfl (Sx.guard_known (d := 122) (b := true) F rfl rfl) rfl (Sx.d_bin (v := .bool true) F rfl rfl rfl (Sx.i_eqV (decide_eq_true (Bi.len_right da)))) ?_
              rintro xv w' ⟨hx, rfl⟩
              exact ⟨(fun cv hc => hx.trans (Option.some.inj (Option.some.inj hc))), H⟩
            · show Sx.StepAt _ _ _ _ _ _ _ 42
              intro L A w up hun hd F H
              have F := Sx.Fr.to F (kv' := [(122, .bool true), (128, .bool true), (115, .bool false)]) ⟨rfl, rfl, rfl, trivial⟩
              refine Sx.step_ong rfl (Sx.guard_known (d := 115) (b := false) F rfl rfl) rfl (Sx.d_pickT (v := .bool true) F rfl rfl rfl) ?_
              rintro xv w' ⟨hx, rfl⟩
              exact ⟨(fun cv hc => hx.trans (Option.some.inj (Option.some.inj hc))), H⟩
            · show Sx.StepAt _ _ _ _ _ _ _ 43
              intro L A w up hun hd F H
              have F := Sx.Fr.to F (kv' := [(115, .bool false), (129, .bool true), (111, .bool true)]) ⟨rfl, rfl, rfl, trivial⟩
              refine Sx.step_ong rfl (Sx.guard_known (d := 111) (b := true) F rfl rfl) rfl (Sx.d_pickF (v := .bool true) F rfl rfl rfl) ?_
              rintro xv w' ⟨hx, rfl⟩
              exact ⟨(fun cv hc => hx.trans (Option.some.inj (Option.some.inj hc))), H⟩
            · show Sx.StepAt _ _ _ _ _ _ _ 44
              intro L A w up hun hd F H
              have F := Sx.Fr.to F (kv' := [(111, .bool true), (130, .bool true)]) ⟨rfl, rfl, trivial⟩
              refine Sx.step_on rfl (Sx.d_pickT (v := .bool true) F rfl rfl rfl) ?_
              rintro xv w' ⟨hx, rfl⟩
              exact ⟨(fun cv hc => hx.trans (Option.some.inj (Option.some.inj hc))), H⟩
            · show Sx.StepAt _ _ _ _ _ _ _ 45
              intro L A w up hun hd F H
              have F := Sx.Fr.to F (kv' := [(131, .bool true)]) ⟨rfl, trivial⟩
              refine Sx.step_on rfl (Sx.d_move F (Or.inr rfl) rfl) ?_
              rintro xv w' ⟨hx, rfl⟩
              exact ⟨(fun cv hc => hx.trans (Option.some.inj (Option.some.inj hc))), H⟩
          · intro L A w hL F H
            have F := Sx.Fr.to F (kv' := [(6, .bool true)]) ⟨rfl, trivial⟩
            refine hK10 _ _ ?_
            refine wp_ret ?_
            try dsimp only [Exit.then, Exit.inBlock, Exit.jump]
            refine Sx.ret1 F Try.results4 (Sx.res_tmp (v := .bool true) F rfl) ⟨?_, H.below⟩
            rfl
      by_cases h1 : n < 128
      · skip
        refine Sx.seq (fun K11 hK11 => ?_)
        refine Sx.plain ?_
        refine Sx.sv F (Sx.d_move F (Or.inl rfl) rfl) (Sx.wanted_none rfl _) rfl (by decide) (fun A F => ?_)
        refine Sx.sv F (Sx.d_bin (v := .bool true) F rfl rfl rfl (Sx.i_lt (decide_eq_true (by omega)))) (Sx.wanted_none rfl _) rfl (by decide) (fun A F => ?_)
        refine Sx.sv F (Sx.d_move F (Or.inl rfl) rfl) (Sx.wanted_none rfl _) rfl (by decide) (fun A F => ?_)
        refine Sx.sv F (Sx.d_load (i := 2) (xs := [.int .u64 ((Wd.hi (da - ((da >>> n) <<< n))).toNat), .int .u64 ((Wd.lo (da - ((da >>> n) <<< n))).toNat)]) rw_24 F H rfl rfl rfl rfl rfl) (Sx.wanted_on rfl (Sx.guard_known (d := 72) (b := true) F rfl rfl) rfl) rfl (by decide) (fun A F => ?_)
        refine Sx.sv F (Sx.d_load (i := 0) (xs := [.int .u64 ((Wd.hi (1#128 <<< n)).toNat), .int .u64 ((Wd.lo (1#128 <<< n)).toNat)]) rw_24 F H rfl rfl rfl rfl rfl) (Sx.wanted_on rfl (Sx.guard_known (d := 72) (b := true) F rfl rfl) rfl) rfl (by decide) (fun A F => ?_)
        refine Sx.sw F (Sx.d_call (vs := [.agg #[.int .u64 ((Wd.hi (da - ((da >>> n) <<< n))).toNat), .int .u64 ((Wd.lo (da - ((da >>> n) <<< n))).toNat)], .agg #[.int .u64 ((Wd.hi (1#128 <<< n)).toNat), .int .u64 ((Wd.lo (1#128 <<< n)).toNat)]]) (v := .int .i64 (Wd.cmp (da - ((da >>> n) <<< n)) (1#128 <<< n))) if_17 F H rfl rfl (wcmp_c (da - ((da >>> n) <<< n)) (1#128 <<< n) _)) (Sx.wanted_on rfl (Sx.guard_known (d := 72) (b := true) F rfl rfl) rfl) rfl (by decide) (fun A w F H => ?_)
        refine Sx.sv F (Sx.d_bin (v := .bool false) F rfl rfl rfl (Sx.i_ge (by rw [Wd.low_lt da n h1]; rfl))) (Sx.wanted_on rfl (Sx.guard_known (d := 72) (b := true) F rfl rfl) rfl) rfl (by decide) (fun A F => ?_)
        refine Sx.sv F (Sx.d_pickT (v := .bool false) F rfl rfl rfl) (Sx.wanted_none rfl _) rfl (by decide) (fun A F => ?_)
        refine Sx.sv F (Sx.d_move F (Or.inl rfl) rfl) (Sx.wanted_none rfl _) rfl (by decide) (fun A F => ?_)
        refine Sx.sv F (Sx.d_move F (Or.inl rfl) rfl) (Sx.wanted_on rfl (Sx.guard_known (d := 78) (b := false) F rfl rfl) rfl) rfl (by decide) (fun A F => ?_)
        refine Sx.sv F (Sx.d_bin (v := .bool false) F rfl rfl rfl (Sx.i_ge (decide_eq_false (by omega)))) (Sx.wanted_on rfl (Sx.guard_known (d := 78) (b := false) F rfl rfl) rfl) rfl (by decide) (fun A F => ?_)
        refine Sx.sv F (Sx.d_move F (Or.inl rfl) rfl) (Sx.wanted_on rfl (Sx.guard_known (d := 78) (b := false) F rfl rfl) rfl) rfl (by decide) (fun A F => ?_)
        refine Sx.su F (Sx.wanted_off rfl (Sx.guard_known (d := 81) (b := false) F rfl rfl) rfl) rfl (by decide) (fun A F => ?_)
        refine Sx.su F (Sx.wanted_off rfl (Sx.guard_known (d := 81) (b := false) F rfl rfl) rfl) rfl (by decide) (fun A F => ?_)
        refine Sx.su F (Sx.wanted_off rfl (Sx.guard_known (d := 81) (b := false) F rfl rfl) rfl) rfl (by decide) (fun A F => ?_)
        refine Sx.sv F (Sx.d_pickF (v := .bool false) F rfl rfl rfl) (Sx.wanted_on rfl (Sx.guard_known (d := 78) (b := false) F rfl rfl) rfl) rfl (by decide) (fun A F => ?_)
        refine Sx.sv F (Sx.d_pickF (v := .bool false) F rfl rfl rfl) (Sx.wanted_none rfl _) rfl (by decide) (fun A F => ?_)
        refine Sx.nil ?_
        refine hK11 _ _ ?_
        refine Sx.condF F rfl ?_
        refine wp_skip ?_
        exact rest8 _ _ (Sx.Fr.to F ⟨rfl, rfl, rfl, trivial⟩) H
      · skip
        refine Sx.seq (fun K12 hK12 => ?_)
        refine Sx.plain ?_
        refine Sx.sv F (Sx.d_move F (Or.inl rfl) rfl) (Sx.wanted_none rfl _) rfl (by decide) (fun A F => ?_)
        refine Sx.sv F (Sx.d_bin (v := .bool false) F rfl rfl rfl (Sx.i_lt (decide_eq_false (by omega)))) (Sx.wanted_none rfl _) rfl (by decide) (fun A F => ?_)
        refine Sx.sv F (Sx.d_move F (Or.inl rfl) rfl) (Sx.wanted_none rfl _) rfl (by decide) (fun A F => ?_)
        refine Sx.su F (Sx.wanted_off rfl (Sx.guard_known (d := 72) (b := false) F rfl rfl) rfl) rfl (by decide) (fun A F => ?_)
        refine Sx.su F (Sx.wanted_off rfl (Sx.guard_known (d := 72) (b := false) F rfl rfl) rfl) rfl (by decide) (fun A F => ?_)
        refine Sx.su F (Sx.wanted_off rfl (Sx.guard_known (d := 72) (b := false) F rfl rfl) rfl) rfl (by decide) (fun A F => ?_)
        refine Sx.su F (Sx.wanted_off rfl (Sx.guard_known (d := 72) (b := false) F rfl rfl) rfl) rfl (by decide) (fun A F => ?_)
        refine Sx.sv F (Sx.d_pickF (v := .bool false) F rfl rfl rfl) (Sx.wanted_none rfl _) rfl (by decide) (fun A F => ?_)
        refine Sx.sv F (Sx.d_move F (Or.inl rfl) rfl) (Sx.wanted_none rfl _) rfl (by decide) (fun A F => ?_)
        refine Sx.sv F (Sx.d_move F (Or.inl rfl) rfl) (Sx.wanted_on rfl (Sx.guard_known (d := 78) (b := false) F rfl rfl) rfl) rfl (by decide) (fun A F => ?_)
        refine Sx.sv F (Sx.d_bin (v := .bool true) F rfl rfl rfl (Sx.i_ge (decide_eq_true (by omega)))) (Sx.wanted_on rfl (Sx.guard_known (d := 78) (b := false) F rfl rfl) rfl) rfl (by decide) (fun A F => ?_)
        refine Sx.sv F (Sx.d_move F (Or.inl rfl) rfl) (Sx.wanted_on rfl (Sx.guard_known (d := 78) (b := false) F rfl rfl) rfl) rfl (by decide) (fun A F => ?_)
        refine Sx.sv F (Sx.d_load (i := 2) (xs := [.int .u64 ((Wd.hi (da - ((da >>> n) <<< n))).toNat), .int .u64 ((Wd.lo (da - ((da >>> n) <<< n))).toNat)]) rw_24 F H rfl rfl rfl rfl rfl) (Sx.wanted_on rfl (Sx.guard_known (d := 81) (b := true) F rfl rfl) rfl) rfl (by decide) (fun A F => ?_)
        refine Sx.sv F (Sx.d_load (i := 1) (xs := [.int .u64 ((Wd.hi da).toNat), .int .u64 ((Wd.lo da).toNat)]) rw_24 F H rfl rfl rfl rfl rfl) (Sx.wanted_on rfl (Sx.guard_known (d := 81) (b := true) F rfl rfl) rfl) rfl (by decide) (fun A F => ?_)
        refine Sx.sv F (Sx.d_bin (v := .bool false) F rfl rfl rfl (Sx.i_neV (by rw [show Wd.eqb (da - ((da >>> n) <<< n)) da = true from decide_eq_true (Wd.low_all da n (by omega))] <;> rfl))) (Sx.wanted_on rfl (Sx.guard_known (d := 81) (b := true) F rfl rfl) rfl) rfl (by decide) (fun A F => ?_)
        refine Sx.sv F (Sx.d_pickT (v := .bool false) F rfl rfl rfl) (Sx.wanted_on rfl (Sx.guard_known (d := 78) (b := false) F rfl rfl) rfl) rfl (by decide) (fun A F => ?_)
        refine Sx.sv F (Sx.d_pickF (v := .bool false) F rfl rfl rfl) (Sx.wanted_none rfl _) rfl (by decide) (fun A F => ?_)
        refine Sx.nil ?_
        refine hK12 _ _ ?_
        refine Sx.condF F rfl ?_
        refine wp_skip ?_
        exact rest8 _ _ (Sx.Fr.to F ⟨rfl, rfl, rfl, trivial⟩) H
end Go.Proofs.Ytpbdffmgendboab
