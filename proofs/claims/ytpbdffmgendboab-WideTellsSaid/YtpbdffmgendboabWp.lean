/- wide.Put, Take walked. -/
import Derived.Test.YtpbdffmgendboabByPlain
import Derived.Test.YtpbdffmgendboabDv
namespace Go.Proofs.Ytpbdffmgendboab
open Go Go.RowKit
set_option maxRecDepth 100000 in
theorem wput_c (da : BitVec 128) (w0 : World) : Calls Try.prog 21 #[.agg #[.int .u64 ((Wd.hi da).toNat), .int .u64 ((Wd.lo da).toNat)]] w0 fun e w' => ∃ v, e = .returned v ∧ w'.ownsRow w0.heap.size 5 1 v 16 (By.bys (By.put da) 16) ∧ Below w0.heap.size w0 w' := by
  refine Sx.enter (args := [.agg #[.int .u64 ((Wd.hi da).toNat), .int .u64 ((Wd.lo da).toNat)]]) Try.func21 rfl Try.ntmps21 (Nat.le_of_ble_eq_true rfl) (fun A F => ?_)
  have H := Sx.Own.start w0
  refine Sx.seq (fun K1 hK1 => ?_)
  refine Sx.plain ?_
  refine Sx.sb F (Sx.d_box F H rfl rfl [.int .u64 ((Wd.hi da).toNat), .int .u64 ((Wd.lo da).toNat)] rfl) (Sx.wanted_none rfl _) rfl (by decide) (fun g1 A w F H => ?_)
  refine Sx.sv F (Sx.d_move F (Or.inr rfl) rfl) (Sx.wanted_none rfl _) rfl (by decide) (fun A F => ?_)
  refine Sx.nil ?_
  refine hK1 _ _ ?_
  refine Sx.seq (fun K2 hK2 => ?_)
  refine Sx.plain ?_
  refine Sx.sr (mk := fun v => v) F (Sx.d_make (m := 16) Sx.undU8 Sx.infU8 rfl F H rfl rfl rfl (by decide) (by decide)) (Sx.wanted_none rfl _) rfl (by decide) (fun v1 A w F (H : Sx.Own w0 _ [(true, g1, [.int .u64 ((Wd.hi da).toNat), .int .u64 ((Wd.lo da).toNat)])] [⟨true, v1, 5, 1, 16, (List.replicate 16 (.int .u8 0))⟩]) => ?_)
  refine Sx.sv F (Sx.d_move F (Or.inr rfl) rfl) (Sx.wanted_none rfl _) rfl (by decide) (fun A F => ?_)
  refine Sx.nil ?_
  refine hK2 _ _ ?_
  refine Sx.seq (fun K3 hK3 => ?_)
  refine Sx.seq (fun K4 hK4 => ?_)
  refine Sx.plain ?_
  refine Sx.sv F (Sx.d_move F (Or.inl rfl) rfl) (Sx.wanted_none rfl _) rfl (by decide) (fun A F => ?_)
  refine Sx.sv F (Sx.d_len (i := 0) el_39 F H rfl rfl rfl) (Sx.wanted_none rfl _) rfl (by decide) (fun A F => ?_)
  refine Sx.sv F (Sx.d_move F (Or.inl rfl) rfl) (Sx.wanted_none rfl _) rfl (by decide) (fun A F => ?_)
  refine Sx.nil ?_
  refine hK4 _ _ ?_
  refine wp_block ?_
  obtain ⟨lg, lc, rfl, hc1, hc2⟩ := H.open (i := 0) rfl (by omega)
  refine Sx.loop (fun q A w => ∃ i : Nat, q = 16 - i ∧ i ≤ 16 ∧ Sx.Fr 22 A [(1, .pointer (some ⟨g1, 0, none⟩)), (3, .slice (some ⟨lg, 0, none⟩) 16 lc), (7, .int .i64 16), (8, .int .i64 i)] ∧ Sx.Own w0 w [(true, g1, [.int .u64 ((Wd.hi da).toNat), .int .u64 ((Wd.lo da).toNat)])] [⟨true, .slice (some ⟨lg, 0, none⟩) 16 lc, 5, 1, 16, (By.row da i)⟩]) 16 ⟨0, rfl, Nat.zero_le _, F.to ⟨rfl, rfl, rfl, rfl, trivial⟩, H⟩ ?_
  rintro q A w ⟨i, rfl, hi, F, H⟩
  by_cases hlt : i < 16
  · skip
    refine Sx.seq (fun K5 hK5 => ?_)
    refine Sx.plain ?_
    refine Sx.sv F (Sx.d_bin (v := .bool true) F rfl rfl rfl (Sx.i_lt (decide_eq_true (by omega)))) (Sx.wanted_none rfl _) rfl (by decide) (fun A F => ?_)
    refine Sx.nil ?_
    refine hK5 _ _ ?_
    refine Sx.seq (fun K6 hK6 => ?_)
    refine Sx.condT F rfl ?_
    refine wp_skip ?_
    refine hK6 _ _ ?_
    refine Sx.seq (fun K7 hK7 => ?_)
    refine wp_block ?_
    refine Sx.seq (fun K8 hK8 => ?_)
    refine Sx.plain ?_
    refine Sx.sv F (Sx.d_move F (Or.inl rfl) rfl) (Sx.wanted_none rfl _) rfl (by decide) (fun A F => ?_)
    refine Sx.sv F (Sx.d_move F (Or.inr rfl) rfl) (Sx.wanted_none rfl _) rfl (by decide) (fun A F => ?_)
    refine Sx.nil ?_
    refine hK8 _ _ ?_
    refine Sx.plain ?_
    refine Sx.sv F (Sx.d_move F (Or.inl rfl) rfl) (Sx.wanted_none rfl _) rfl (by decide) (fun A F => ?_)
    refine Sx.sv F (Sx.d_move F (Or.inl rfl) rfl) (Sx.wanted_none rfl _) rfl (by decide) (fun A F => ?_)
    refine Sx.sv F (Sx.d_load (i := 0) (xs := [.int .u64 ((Wd.hi da).toNat), .int .u64 ((Wd.lo da).toNat)]) rw_24 F H rfl rfl rfl rfl rfl) (Sx.wanted_none rfl _) rfl (by decide) (fun A F => ?_)
    refine Sx.sv F (Sx.d_move F (Or.inl rfl) rfl) (Sx.wanted_none rfl _) rfl (by decide) (fun A F => ?_)
    refine Sx.sv F (Sx.d_bin (v := .int .i64 (8 * i : Nat)) F rfl rfl rfl (Sx.i_mulN rfl (Sx.in_i64 _ (by omega)))) (Sx.wanted_none rfl _) rfl (by decide) (fun A F => ?_)
    refine Sx.sw F (Sx.d_call (vs := [.agg #[.int .u64 ((Wd.hi da).toNat), .int .u64 ((Wd.lo da).toNat)], .int .i64 (8 * i : Nat)]) (v := .agg #[.int .u64 ((Wd.hi (da >>> (8 * i))).toNat), .int .u64 ((Wd.lo (da >>> (8 * i))).toNat)]) if_16 F H rfl rfl (wrightN_c da (8 * i) (by omega) _)) (Sx.wanted_none rfl _) rfl (by decide) (fun A w F H => ?_)
    refine Sx.sv F (Sx.d_field (v := .int .u64 ((Wd.lo (da >>> (8 * i))).toNat)) F rfl rfl (by kernel_rfl)) (Sx.wanted_none rfl _) rfl (by decide) (fun A F => ?_)
    refine Sx.sv F (Sx.d_conv (v := .int .u8 (By.put da i)) F rfl rfl (Sx.c_u64_u8 _ _ (By.put_lo da i))) (Sx.wanted_none rfl _) rfl (by decide) (fun A F => ?_)
    refine Sx.sv F (Sx.d_ixR (k := i) el_39 F rfl rfl rfl (rfl) (by omega)) (Sx.wanted_none rfl _) rfl (by decide) (fun A F => ?_)
    refine Sx.ss F (Sx.d_storeR (i := 0) (k := i) sz_5 F H rfl rfl rfl rfl rfl rfl (by omega)) (Sx.wanted_none rfl _) rfl (fun A w F (H : Sx.Own w0 _ [(true, g1, [.int .u64 ((Wd.hi da).toNat), .int .u64 ((Wd.lo da).toNat)])] [⟨true, .slice (some ⟨lg, 0, none⟩) 16 lc, 5, 1, 16, ((By.row da i).set i (.int .u8 (By.put da i)))⟩]) => ?_)
    refine Sx.nil ?_
    refine hK7 _ _ ?_
    refine Sx.plain ?_
    refine Sx.sv F (Sx.d_bin (v := .int .i64 (i + 1 : Nat)) F rfl rfl rfl (Sx.i_addN rfl (Sx.in_i64 _ (by omega)))) (Sx.wanted_none rfl _) rfl (by decide) (fun A F => ?_)
    refine Sx.sv F (Sx.d_move F (Or.inl rfl) rfl) (Sx.wanted_none rfl _) rfl (by decide) (fun A F => ?_)
    refine Sx.nil ?_
    try dsimp only [Exit.then]
    exact ⟨16 - (i + 1), by omega, i + 1, rfl, by omega, F.to ⟨rfl, rfl, rfl, rfl, trivial⟩, by rw [← By.row_set da i hlt]; exact H⟩
  · obtain rfl : i = 16 := by omega
    refine Sx.seq (fun K9 hK9 => ?_)
    refine Sx.plain ?_
    refine Sx.sv F (Sx.d_bin (v := .bool false) F rfl rfl rfl (Sx.i_lt (by decide))) (Sx.wanted_none rfl _) rfl (by decide) (fun A F => ?_)
    refine Sx.nil ?_
    refine hK9 _ _ ?_
    refine Sx.seq (fun K10 hK10 => ?_)
    refine Sx.condF F rfl ?_
    refine wp_exit ?_
    try dsimp only [Exit.then, Exit.jump]
    refine Sx.exit_here ?_
    refine hK3 _ _ ?_
    refine Sx.seq (fun K11 hK11 => ?_)
    refine Sx.plain ?_
    refine Sx.sv F (Sx.d_move F (Or.inl rfl) rfl) (Sx.wanted_none rfl _) rfl (by decide) (fun A F => ?_)
    refine Sx.sv F (Sx.d_move F (Or.inr rfl) rfl) (Sx.wanted_none rfl _) rfl (by decide) (fun A F => ?_)
    refine Sx.nil ?_
    refine hK11 _ _ ?_
    refine wp_ret ?_
    try dsimp only [Exit.then, Exit.inBlock, Exit.jump]
    refine Sx.ret1 F Try.results21 (Sx.res_tmp (v := .slice (some ⟨lg, 0, none⟩) 16 lc) F rfl) ?_
    exact ⟨_, rfl, Sx.rowEq (H.row 0 _ rfl rfl) rfl rfl rfl rfl (By.row_all da), H.below⟩
set_option maxRecDepth 100000 in
theorem wtake_s (f : Nat → Nat) (hf : ∀ k, f k < 256) (ada : Option Addr) (capa : Nat) (w0 : World) (hca : ∀ k, k < 16 → ∃ b o, ada = some ⟨b, o, none⟩ ∧ w0.cell? ⟨b, o + k, none⟩ = some (.int .u8 (f k : Nat))) : Calls Try.prog 20 #[.slice ada 16 capa] w0 fun e w' => e = .returned (.tuple #[.agg #[.int .u64 ((Wd.hi (By.val f 16)).toNat), .int .u64 ((Wd.lo (By.val f 16)).toNat)], .int .i64 0]) ∧ Below w0.heap.size w0 w' := by
  refine Sx.enter (args := [.slice ada 16 capa]) Try.func20 rfl Try.ntmps20 (Nat.le_of_ble_eq_true rfl) (fun A F => ?_)
  have H := Sx.Own.start w0
  refine Sx.seq (fun K1 hK1 => ?_)
  refine Sx.plain ?_
  refine Sx.sb F (Sx.d_alloc H rfl [.int .u64 ((Wd.hi 0#128).toNat), .int .u64 ((Wd.lo 0#128).toNat)] zero_24) (Sx.wanted_none rfl _) rfl (by decide) (fun g1 A w F H => ?_)
  refine Sx.sv F (Sx.d_move F (Or.inr rfl) rfl) (Sx.wanted_none rfl _) rfl (by decide) (fun A F => ?_)
  refine Sx.nil ?_
  refine hK1 _ _ ?_
  refine Sx.seq (fun K2 hK2 => ?_)
  refine Sx.seq (fun K3 hK3 => ?_)
  refine Sx.plain ?_
  refine Sx.sv F (Sx.d_move F (Or.inl rfl) rfl) (Sx.wanted_none rfl _) rfl (by decide) (fun A F => ?_)
  refine Sx.sv F (Sx.d_lenS el_39 F rfl rfl) (Sx.wanted_none rfl _) rfl (by decide) (fun A F => ?_)
  refine Sx.sv F (Sx.d_bin (v := .bool false) F rfl rfl rfl (Sx.i_ne (by decide))) (Sx.wanted_none rfl _) rfl (by decide) (fun A F => ?_)
  refine Sx.nil ?_
  refine hK3 _ _ ?_
  refine Sx.condF F rfl ?_
  refine wp_skip ?_
  refine hK2 _ _ ?_
  refine Sx.seq (fun K4 hK4 => ?_)
  refine Sx.plain ?_
  refine Sx.sb F (Sx.d_alloc H rfl [.int .u64 ((Wd.hi 0#128).toNat), .int .u64 ((Wd.lo 0#128).toNat)] zero_24) (Sx.wanted_none rfl _) rfl (by decide) (fun g2 A w F H => ?_)
  refine Sx.nil ?_
  refine hK4 _ _ ?_
  refine Sx.seq (fun K5 hK5 => ?_)
  refine Sx.seq (fun K6 hK6 => ?_)
  refine Sx.plain ?_
  refine Sx.sv F (Sx.d_move F (Or.inl rfl) rfl) (Sx.wanted_none rfl _) rfl (by decide) (fun A F => ?_)
  refine Sx.sv F (Sx.d_lenS el_39 F rfl rfl) (Sx.wanted_none rfl _) rfl (by decide) (fun A F => ?_)
  refine Sx.sv F (Sx.d_move F (Or.inl rfl) rfl) (Sx.wanted_none rfl _) rfl (by decide) (fun A F => ?_)
  refine Sx.nil ?_
  refine hK6 _ _ ?_
  refine wp_block ?_
  refine Sx.loop (fun q A w => ∃ i : Nat, q = 16 - i ∧ i ≤ 16 ∧ Sx.Fr 31 A [(2, .pointer (some ⟨g1, 0, none⟩)), (4, .pointer (some ⟨g2, 0, none⟩)), (11, .slice ada 16 capa), (12, .int .i64 16), (13, .int .i64 i)] ∧ Sx.Own w0 w [(true, g2, [.int .u64 ((Wd.hi (By.val f i)).toNat), .int .u64 ((Wd.lo (By.val f i)).toNat)]), (true, g1, [.int .u64 ((Wd.hi 0#128).toNat), .int .u64 ((Wd.lo 0#128).toNat)])] []) 16 ⟨0, rfl, Nat.zero_le _, F.to ⟨rfl, rfl, rfl, rfl, rfl, trivial⟩, H⟩ ?_
  rintro q A w ⟨i, rfl, hi, F, H⟩
  by_cases hlt : i < 16
  · obtain ⟨ga, oa, hada, hcella⟩ := hca _ hlt
    have hfi := hf i
    refine Sx.seq (fun K7 hK7 => ?_)
    refine Sx.plain ?_
    refine Sx.sv F (Sx.d_bin (v := .bool true) F rfl rfl rfl (Sx.i_lt (decide_eq_true (by omega)))) (Sx.wanted_none rfl _) rfl (by decide) (fun A F => ?_)
    refine Sx.nil ?_
    refine hK7 _ _ ?_
    refine Sx.seq (fun K8 hK8 => ?_)
    refine Sx.condT F rfl ?_
    refine wp_skip ?_
    refine hK8 _ _ ?_
    refine Sx.seq (fun K9 hK9 => ?_)
    refine wp_block ?_
    refine Sx.seq (fun K10 hK10 => ?_)
    refine Sx.plain ?_
    refine Sx.sv F (Sx.d_move F (Or.inl rfl) rfl) (Sx.wanted_none rfl _) rfl (by decide) (fun A F => ?_)
    refine Sx.sv F (Sx.d_ix1 (k := i) (g := ga) (off := oa) el_39 F rfl rfl hada rfl (rfl) (by omega)) (Sx.wanted_none rfl _) rfl (by decide) (fun A F => ?_)
    refine Sx.sv F (Sx.d_loadF one_5 F H rfl rfl hcella) (Sx.wanted_none rfl _) rfl (by decide) (fun A F => ?_)
    refine Sx.sv F (Sx.d_move F (Or.inr rfl) rfl) (Sx.wanted_none rfl _) rfl (by decide) (fun A F => ?_)
    refine Sx.sv F (Sx.d_move F (Or.inr rfl) rfl) (Sx.wanted_none rfl _) rfl (by decide) (fun A F => ?_)
    refine Sx.nil ?_
    refine hK10 _ _ ?_
    have F := Sx.Fr.to F (kv' := [(2, .pointer (some ⟨g1, 0, none⟩)), (4, .pointer (some ⟨g2, 0, none⟩)), (11, .slice ada 16 capa), (12, .int .i64 16), (13, .int .i64 i), (14, .bool true), (15, .int .i64 i), (16, .pointer (some ⟨ga, oa + i, none⟩)), (17, .int .u8 (f i)), (5, .int .i64 i), (6, .int .u8 (f i))]) ⟨rfl, rfl, rfl, rfl, rfl, rfl, rfl, rfl, rfl, rfl, rfl, trivial⟩
    refine Sx.drawn F (by kernel_rfl) (by kernel_rfl) (by kernel_rfl) [some (.agg #[.int .u64 ((Wd.hi (By.val f i)).toNat), .int .u64 ((Wd.lo (By.val f i)).toNat)]), some (.int .u8 (f i)), some (.int .u64 ((BitVec.ofNat 64 (f i)).toNat)), some (.agg #[.int .u64 ((Wd.hi (Wd.of (BitVec.ofNat 64 (f i)))).toNat), .int .u64 ((Wd.lo (Wd.of (BitVec.ofNat 64 (f i)))).toNat)]), some (.int .i64 i), some (.int .i64 (8 * i : Nat)), some (.agg #[.int .u64 ((Wd.hi ((Wd.of (BitVec.ofNat 64 (f i))) <<< (8 * i))).toNat), .int .u64 ((Wd.lo ((Wd.of (BitVec.ofNat 64 (f i))) <<< (8 * i))).toNat)]), some (.tuple #[.agg #[.int .u64 ((Wd.hi ((By.val f i) + ((Wd.of (BitVec.ofNat 64 (f i))) <<< (8 * i)))).toNat), .int .u64 ((Wd.lo ((By.val f i) + ((Wd.of (BitVec.ofNat 64 (f i))) <<< (8 * i)))).toNat)], .bool (Wd.over (By.val f i) ((Wd.of (BitVec.ofNat 64 (f i))) <<< (8 * i)))]), some (.tuple #[.agg #[.int .u64 ((Wd.hi ((By.val f i) + ((Wd.of (BitVec.ofNat 64 (f i))) <<< (8 * i)))).toNat), .int .u64 ((Wd.lo ((By.val f i) + ((Wd.of (BitVec.ofNat 64 (f i))) <<< (8 * i)))).toNat)], .bool (Wd.over (By.val f i) ((Wd.of (BitVec.ofNat 64 (f i))) <<< (8 * i)))]), some (.agg #[.int .u64 ((Wd.hi ((By.val f i) + ((Wd.of (BitVec.ofNat 64 (f i))) <<< (8 * i)))).toNat), .int .u64 ((Wd.lo ((By.val f i) + ((Wd.of (BitVec.ofNat 64 (f i))) <<< (8 * i)))).toNat)]), some (.bool (Wd.over (By.val f i) ((Wd.of (BitVec.ofNat 64 (f i))) <<< (8 * i)))), none] (fun L A w => Sx.Own w0 w [(true, g2, (cond (L 11) [.int .u64 ((Wd.hi ((By.val f i) + ((Wd.of (BitVec.ofNat 64 (f i))) <<< (8 * i)))).toNat), .int .u64 ((Wd.lo ((By.val f i) + ((Wd.of (BitVec.ofNat 64 (f i))) <<< (8 * i)))).toNat)] [.int .u64 ((Wd.hi (By.val f i)).toNat), .int .u64 ((Wd.lo (By.val f i)).toNat)])), (true, g1, [.int .u64 ((Wd.hi 0#128).toNat), .int .u64 ((Wd.lo 0#128).toNat)])] []) H.drew ?_ ?_
    · refine ⟨?_, ?_, ?_, ?_, ?_, ?_, ?_, ?_, ?_, ?_, ?_, ?_, trivial⟩
      · show Sx.StepAt _ _ _ _ _ _ _ 0
        intro L A w up hun hd F H
        have f11 : L 11 = false := up 11 0 rfl hun
        rw [f11] at H
        have F := Sx.Fr.to F (kv' := [(4, .pointer (some ⟨g2, 0, none⟩))]) ⟨rfl, trivial⟩
        refine Sx.step_on rfl (Sx.d_load (i := 0) (xs := [.int .u64 ((Wd.hi (By.val f i)).toNat), .int .u64 ((Wd.lo (By.val f i)).toNat)]) rw_24 F H rfl rfl rfl rfl rfl) ?_
        rintro xv w' ⟨hx, rfl⟩
        exact ⟨(fun cv hc => hx.trans (Option.some.inj (Option.some.inj hc))), (by show Sx.Own _ _ _ _; rw [show Inv.add L 0 11 = false from f11]; exact H)⟩
      · show Sx.StepAt _ _ _ _ _ _ _ 1
        intro L A w up hun hd F H
        have f11 : L 11 = false := up 11 1 rfl hun
        rw [f11] at H
        have F := Sx.Fr.to F (kv' := [(6, .int .u8 (f i))]) ⟨rfl, trivial⟩
        refine Sx.step_on rfl (Sx.d_move F (Or.inl rfl) rfl) ?_
        rintro xv w' ⟨hx, rfl⟩
        exact ⟨(fun cv hc => hx.trans (Option.some.inj (Option.some.inj hc))), (by show Sx.Own _ _ _ _; rw [show Inv.add L 1 11 = false from f11]; exact H)⟩
      · show Sx.StepAt _ _ _ _ _ _ _ 2
        intro L A w up hun hd F H
        have f11 : L 11 = false := up 11 2 rfl hun
        rw [f11] at H
        have F := Sx.Fr.to F (kv' := [(20, .int .u8 (f i))]) ⟨rfl, trivial⟩
        refine Sx.step_on rfl (Sx.d_conv (v := .int .u64 ((BitVec.ofNat 64 (f i)).toNat)) F rfl rfl (Sx.c_u8_u64 _ (by omega) _)) ?_
        rintro xv w' ⟨hx, rfl⟩
        exact ⟨(fun cv hc => hx.trans (Option.some.inj (Option.some.inj hc))), (by show Sx.Own _ _ _ _; rw [show Inv.add L 2 11 = false from f11]; exact H)⟩
      · show Sx.StepAt _ _ _ _ _ _ _ 3
        intro L A w up hun hd F H
        have f11 : L 11 = false := up 11 3 rfl hun
        rw [f11] at H
        have F := Sx.Fr.to F (kv' := [(21, .int .u64 ((BitVec.ofNat 64 (f i)).toNat))]) ⟨rfl, trivial⟩
        refine Sx.step_on rfl (Sx.d_call (vs := [.int .u64 ((BitVec.ofNat 64 (f i)).toNat)]) (v := .agg #[.int .u64 ((Wd.hi (Wd.of (BitVec.ofNat 64 (f i)))).toNat), .int .u64 ((Wd.lo (Wd.of (BitVec.ofNat 64 (f i)))).toNat)]) if_14 F H rfl rfl (wofV_c (BitVec.ofNat 64 (f i)) _)) ?_
        rintro xv w' ⟨hx, H⟩
        exact ⟨(fun cv hc => hx.trans (Option.some.inj (Option.some.inj hc))), (by show Sx.Own _ _ _ _; rw [show Inv.add L 3 11 = false from f11]; exact H)⟩
      · show Sx.StepAt _ _ _ _ _ _ _ 4
        intro L A w up hun hd F H
        have f11 : L 11 = false := up 11 4 rfl hun
        rw [f11] at H
        have F := Sx.Fr.to F (kv' := [(5, .int .i64 i)]) ⟨rfl, trivial⟩
        refine Sx.step_on rfl (Sx.d_move F (Or.inl rfl) rfl) ?_
        rintro xv w' ⟨hx, rfl⟩
        exact ⟨(fun cv hc => hx.trans (Option.some.inj (Option.some.inj hc))), (by show Sx.Own _ _ _ _; rw [show Inv.add L 4 11 = false from f11]; exact H)⟩
      · show Sx.StepAt _ _ _ _ _ _ _ 5
        intro L A w up hun hd F H
        have f11 : L 11 = false := up 11 5 rfl hun
        rw [f11] at H
        have F := Sx.Fr.to F (kv' := [(23, .int .i64 i)]) ⟨rfl, trivial⟩
        refine Sx.step_on rfl (Sx.d_bin (v := .int .i64 (8 * i : Nat)) F rfl rfl rfl (Sx.i_mulN rfl (Sx.in_i64 _ (by omega)))) ?_
        rintro xv w' ⟨hx, rfl⟩
        exact ⟨(fun cv hc => hx.trans (Option.some.inj (Option.some.inj hc))), (by show Sx.Own _ _ _ _; rw [show Inv.add L 5 11 = false from f11]; exact H)⟩
      · show Sx.StepAt _ _ _ _ _ _ _ 6
        intro L A w up hun hd F H
        have f11 : L 11 = false := up 11 6 rfl hun
        rw [f11] at H
        have F := Sx.Fr.to F (kv' := [(22, .agg #[.int .u64 ((Wd.hi (Wd.of (BitVec.ofNat 64 (f i)))).toNat), .int .u64 ((Wd.lo (Wd.of (BitVec.ofNat 64 (f i)))).toNat)]), (24, .int .i64 (8 * i : Nat))]) ⟨rfl, rfl, trivial⟩
        refine Sx.step_on rfl (Sx.d_call (vs := [.agg #[.int .u64 ((Wd.hi (Wd.of (BitVec.ofNat 64 (f i)))).toNat), .int .u64 ((Wd.lo (Wd.of (BitVec.ofNat 64 (f i)))).toNat)], .int .i64 (8 * i : Nat)]) (v := .agg #[.int .u64 ((Wd.hi ((Wd.of (BitVec.ofNat 64 (f i))) <<< (8 * i))).toNat), .int .u64 ((Wd.lo ((Wd.of (BitVec.ofNat 64 (f i))) <<< (8 * i))).toNat)]) if_15 F H rfl rfl (wleftN_c (Wd.of (BitVec.ofNat 64 (f i))) (8 * i) (by omega) _)) ?_
        rintro xv w' ⟨hx, H⟩
        exact ⟨(fun cv hc => hx.trans (Option.some.inj (Option.some.inj hc))), (by show Sx.Own _ _ _ _; rw [show Inv.add L 6 11 = false from f11]; exact H)⟩
      · show Sx.StepAt _ _ _ _ _ _ _ 7
        intro L A w up hun hd F H
        have f11 : L 11 = false := up 11 7 rfl hun
        rw [f11] at H
        have F := Sx.Fr.to F (kv' := [(19, .agg #[.int .u64 ((Wd.hi (By.val f i)).toNat), .int .u64 ((Wd.lo (By.val f i)).toNat)]), (25, .agg #[.int .u64 ((Wd.hi ((Wd.of (BitVec.ofNat 64 (f i))) <<< (8 * i))).toNat), .int .u64 ((Wd.lo ((Wd.of (BitVec.ofNat 64 (f i))) <<< (8 * i))).toNat)])]) ⟨rfl, rfl, trivial⟩
        refine Sx.step_on rfl (Sx.d_call (vs := [.agg #[.int .u64 ((Wd.hi (By.val f i)).toNat), .int .u64 ((Wd.lo (By.val f i)).toNat)], .agg #[.int .u64 ((Wd.hi ((Wd.of (BitVec.ofNat 64 (f i))) <<< (8 * i))).toNat), .int .u64 ((Wd.lo ((Wd.of (BitVec.ofNat 64 (f i))) <<< (8 * i))).toNat)]]) (v := .tuple #[.agg #[.int .u64 ((Wd.hi ((By.val f i) + ((Wd.of (BitVec.ofNat 64 (f i))) <<< (8 * i)))).toNat), .int .u64 ((Wd.lo ((By.val f i) + ((Wd.of (BitVec.ofNat 64 (f i))) <<< (8 * i)))).toNat)], .bool (Wd.over (By.val f i) ((Wd.of (BitVec.ofNat 64 (f i))) <<< (8 * i)))]) if_11 F H rfl rfl (wadd_c (By.val f i) ((Wd.of (BitVec.ofNat 64 (f i))) <<< (8 * i)) _)) ?_
        rintro xv w' ⟨hx, H⟩
        exact ⟨(fun cv hc => hx.trans (Option.some.inj (Option.some.inj hc))), (by show Sx.Own _ _ _ _; rw [show Inv.add L 7 11 = false from f11]; exact H)⟩
      · show Sx.StepAt _ _ _ _ _ _ _ 8
        intro L A w up hun hd F H
        have f11 : L 11 = false := up 11 8 rfl hun
        rw [f11] at H
        have F := Sx.Fr.to F (kv' := [(26, .tuple #[.agg #[.int .u64 ((Wd.hi ((By.val f i) + ((Wd.of (BitVec.ofNat 64 (f i))) <<< (8 * i)))).toNat), .int .u64 ((Wd.lo ((By.val f i) + ((Wd.of (BitVec.ofNat 64 (f i))) <<< (8 * i)))).toNat)], .bool (Wd.over (By.val f i) ((Wd.of (BitVec.ofNat 64 (f i))) <<< (8 * i)))])]) ⟨rfl, trivial⟩
        refine Sx.step_on rfl (Sx.d_move F (Or.inl rfl) rfl) ?_
        rintro xv w' ⟨hx, rfl⟩
        exact ⟨(fun cv hc => hx.trans (Option.some.inj (Option.some.inj hc))), (by show Sx.Own _ _ _ _; rw [show Inv.add L 8 11 = false from f11]; exact H)⟩
      · show Sx.StepAt _ _ _ _ _ _ _ 9
        intro L A w up hun hd F H
        have f11 : L 11 = false := up 11 9 rfl hun
        rw [f11] at H
        have F := Sx.Fr.to F (kv' := [(18, .tuple #[.agg #[.int .u64 ((Wd.hi ((By.val f i) + ((Wd.of (BitVec.ofNat 64 (f i))) <<< (8 * i)))).toNat), .int .u64 ((Wd.lo ((By.val f i) + ((Wd.of (BitVec.ofNat 64 (f i))) <<< (8 * i)))).toNat)], .bool (Wd.over (By.val f i) ((Wd.of (BitVec.ofNat 64 (f i))) <<< (8 * i)))])]) ⟨rfl, trivial⟩
        refine Sx.step_on rfl (Sx.d_extract (v := .agg #[.int .u64 ((Wd.hi ((By.val f i) + ((Wd.of (BitVec.ofNat 64 (f i))) <<< (8 * i)))).toNat), .int .u64 ((Wd.lo ((By.val f i) + ((Wd.of (BitVec.ofNat 64 (f i))) <<< (8 * i)))).toNat)]) F rfl rfl rfl) ?_
        rintro xv w' ⟨hx, rfl⟩
        exact ⟨(fun cv hc => hx.trans (Option.some.inj (Option.some.inj hc))), (by show Sx.Own _ _ _ _; rw [show Inv.add L 9 11 = false from f11]; exact H)⟩
      · show Sx.StepAt _ _ _ _ _ _ _ 10
        intro L A w up hun hd F H
        have F := Sx.Fr.to F (kv' := [(18, .tuple #[.agg #[.int .u64 ((Wd.hi ((By.val f i) + ((Wd.of (BitVec.ofNat 64 (f i))) <<< (8 * i)))).toNat), .int .u64 ((Wd.lo ((By.val f i) + ((Wd.of (BitVec.ofNat 64 (f i))) <<< (8 * i)))).toNat)], .bool (Wd.over (By.val f i) ((Wd.of (BitVec.ofNat 64 (f i))) <<< (8 * i)))])]) ⟨rfl, trivial⟩
        refine Sx.step_on rfl (Sx.d_extract (v := .bool (Wd.over (By.val f i) ((Wd.of (BitVec.ofNat 64 (f i))) <<< (8 * i)))) F rfl rfl rfl) ?_
        rintro xv w' ⟨hx, rfl⟩
        exact ⟨(fun cv hc => hx.trans (Option.some.inj (Option.some.inj hc))), H⟩
      · show Sx.StepAt _ _ _ _ _ _ _ 11
        intro L A w up hun hd F H
        have f11 : L 11 = false := hun
        rw [f11] at H
        have F := Sx.Fr.to F (kv' := [(4, .pointer (some ⟨g2, 0, none⟩)), (27, .agg #[.int .u64 ((Wd.hi ((By.val f i) + ((Wd.of (BitVec.ofNat 64 (f i))) <<< (8 * i)))).toNat), .int .u64 ((Wd.lo ((By.val f i) + ((Wd.of (BitVec.ofNat 64 (f i))) <<< (8 * i)))).toNat)])]) ⟨rfl, rfl, trivial⟩
        refine Sx.step_on rfl (Sx.d_store (i := 0) (xs := [.int .u64 ((Wd.hi ((By.val f i) + ((Wd.of (BitVec.ofNat 64 (f i))) <<< (8 * i)))).toNat), .int .u64 ((Wd.lo ((By.val f i) + ((Wd.of (BitVec.ofNat 64 (f i))) <<< (8 * i)))).toNat)]) (us := [.int .u64 ((Wd.hi ((By.val f i) + ((Wd.of (BitVec.ofNat 64 (f i))) <<< (8 * i)))).toNat), .int .u64 ((Wd.lo ((By.val f i) + ((Wd.of (BitVec.ofNat 64 (f i))) <<< (8 * i)))).toNat)]) sz_24 F H rfl rfl rfl rfl rfl rfl rfl (Nat.le_of_ble_eq_true rfl) rfl) ?_
        intro xv w' H
        exact ⟨(fun cv hc => by have h := Option.some.inj hc; cases h), H⟩
    · intro L A w hL F H
      have t11 : L 11 = true := hL 11 rfl
      rw [t11] at H
      have F := Sx.Fr.to F (kv' := [(2, .pointer (some ⟨g1, 0, none⟩)), (4, .pointer (some ⟨g2, 0, none⟩)), (11, .slice ada 16 capa), (12, .int .i64 16), (13, .int .i64 i), (14, .bool true), (15, .int .i64 i), (16, .pointer (some ⟨ga, oa + i, none⟩)), (17, .int .u8 (f i)), (5, .int .i64 i), (6, .int .u8 (f i))]) ⟨rfl, rfl, rfl, rfl, rfl, rfl, rfl, rfl, rfl, rfl, rfl, trivial⟩
      refine hK9 _ _ ?_
      refine Sx.plain ?_
      refine Sx.sv F (Sx.d_bin (v := .int .i64 (i + 1 : Nat)) F rfl rfl rfl (Sx.i_addN rfl (Sx.in_i64 _ (by omega)))) (Sx.wanted_none rfl _) rfl (by decide) (fun A F => ?_)
      refine Sx.sv F (Sx.d_move F (Or.inl rfl) rfl) (Sx.wanted_none rfl _) rfl (by decide) (fun A F => ?_)
      refine Sx.nil ?_
      try dsimp only [Exit.then]
      exact ⟨16 - (i + 1), by omega, i + 1, rfl, by omega, F.to ⟨rfl, rfl, rfl, rfl, rfl, trivial⟩, by rw [← By.take_step f i hfi]; exact H⟩
  · obtain rfl : i = 16 := by omega
    refine Sx.seq (fun K11 hK11 => ?_)
    refine Sx.plain ?_
    refine Sx.sv F (Sx.d_bin (v := .bool false) F rfl rfl rfl (Sx.i_lt (by decide))) (Sx.wanted_none rfl _) rfl (by decide) (fun A F => ?_)
    refine Sx.nil ?_
    refine hK11 _ _ ?_
    refine Sx.seq (fun K12 hK12 => ?_)
    refine Sx.condF F rfl ?_
    refine wp_exit ?_
    try dsimp only [Exit.then, Exit.jump]
    refine Sx.exit_here ?_
    refine hK5 _ _ ?_
    refine Sx.seq (fun K13 hK13 => ?_)
    refine Sx.plain ?_
    refine Sx.sv F (Sx.d_load (i := 0) (xs := [.int .u64 ((Wd.hi (By.val f 16)).toNat), .int .u64 ((Wd.lo (By.val f 16)).toNat)]) rw_24 F H rfl rfl rfl rfl rfl) (Sx.wanted_none rfl _) rfl (by decide) (fun A F => ?_)
    refine Sx.ss F (Sx.d_store (i := 1) (xs := [.int .u64 ((Wd.hi (By.val f 16)).toNat), .int .u64 ((Wd.lo (By.val f 16)).toNat)]) (us := [.int .u64 ((Wd.hi (By.val f 16)).toNat), .int .u64 ((Wd.lo (By.val f 16)).toNat)]) sz_24 F H rfl rfl rfl rfl rfl rfl rfl (Nat.le_of_ble_eq_true rfl) rfl) (Sx.wanted_none rfl _) rfl (fun A w F (H : Sx.Own w0 _ [(true, g2, [.int .u64 ((Wd.hi (By.val f 16)).toNat), .int .u64 ((Wd.lo (By.val f 16)).toNat)]), (true, g1, [.int .u64 ((Wd.hi (By.val f 16)).toNat), .int .u64 ((Wd.lo (By.val f 16)).toNat)])] []) => ?_)
    refine Sx.sv F (Sx.d_move F (Or.inr rfl) rfl) (Sx.wanted_none rfl _) rfl (by decide) (fun A F => ?_)
    refine Sx.nil ?_
    refine hK13 _ _ ?_
    refine wp_ret ?_
    try dsimp only [Exit.then, Exit.inBlock, Exit.jump]
    refine Sx.ret2 F Try.results20 (Sx.res_row (i := 1) (xs := [.int .u64 ((Wd.hi (By.val f 16)).toNat), .int .u64 ((Wd.lo (By.val f 16)).toNat)]) rw_24 F H rfl rfl rfl rfl) (Sx.res_tmp (v := .int .i64 0) F rfl) ⟨?_, H.below⟩
    rfl
set_option maxRecDepth 100000 in
theorem wtake_n (ada : Option Addr) (len capa : Nat) (hl : len ≠ 16) (w0 : World) : Calls Try.prog 20 #[.slice ada len capa] w0 fun e w' => e = .returned (.tuple #[.agg #[.int .u64 ((Wd.hi 0#128).toNat), .int .u64 ((Wd.lo 0#128).toNat)], .int .i64 11]) ∧ Below w0.heap.size w0 w' := by
  refine Sx.enter (args := [.slice ada len capa]) Try.func20 rfl Try.ntmps20 (Nat.le_of_ble_eq_true rfl) (fun A F => ?_)
  have H := Sx.Own.start w0
  refine Sx.seq (fun K1 hK1 => ?_)
  refine Sx.plain ?_
  refine Sx.sb F (Sx.d_alloc H rfl [.int .u64 ((Wd.hi 0#128).toNat), .int .u64 ((Wd.lo 0#128).toNat)] zero_24) (Sx.wanted_none rfl _) rfl (by decide) (fun g1 A w F H => ?_)
  refine Sx.sv F (Sx.d_move F (Or.inr rfl) rfl) (Sx.wanted_none rfl _) rfl (by decide) (fun A F => ?_)
  refine Sx.nil ?_
  refine hK1 _ _ ?_
  refine Sx.seq (fun K2 hK2 => ?_)
  refine Sx.seq (fun K3 hK3 => ?_)
  refine Sx.plain ?_
  refine Sx.sv F (Sx.d_move F (Or.inl rfl) rfl) (Sx.wanted_none rfl _) rfl (by decide) (fun A F => ?_)
  refine Sx.sv F (Sx.d_lenS el_39 F rfl rfl) (Sx.wanted_none rfl _) rfl (by decide) (fun A F => ?_)
  refine Sx.sv F (Sx.d_bin (v := .bool true) F rfl rfl rfl (Sx.i_ne (bne_iff_ne.2 (by omega)))) (Sx.wanted_none rfl _) rfl (by decide) (fun A F => ?_)
  refine Sx.nil ?_
  refine hK3 _ _ ?_
  refine Sx.condT F rfl ?_
  refine Sx.seq (fun K4 hK4 => ?_)
  refine Sx.plain ?_
  refine Sx.sv F (Sx.d_build (qs := #[]) (v := .agg #[.int .u64 ((Wd.hi 0#128).toNat), .int .u64 ((Wd.lo 0#128).toNat)]) F rfl rfl (by kernel_rfl)) (Sx.wanted_none rfl _) rfl (by decide) (fun A F => ?_)
  refine Sx.ss F (Sx.d_store (i := 0) (xs := [.int .u64 ((Wd.hi 0#128).toNat), .int .u64 ((Wd.lo 0#128).toNat)]) (us := [.int .u64 ((Wd.hi 0#128).toNat), .int .u64 ((Wd.lo 0#128).toNat)]) sz_24 F H rfl rfl rfl rfl rfl rfl rfl (Nat.le_of_ble_eq_true rfl) rfl) (Sx.wanted_none rfl _) rfl (fun A w F (H : Sx.Own w0 _ [(true, g1, [.int .u64 ((Wd.hi 0#128).toNat), .int .u64 ((Wd.lo 0#128).toNat)])] []) => ?_)
  refine Sx.sv F (Sx.d_move F (Or.inr rfl) rfl) (Sx.wanted_none rfl _) rfl (by decide) (fun A F => ?_)
  refine Sx.nil ?_
  refine hK4 _ _ ?_
  refine wp_ret ?_
  try dsimp only [Exit.then, Exit.inBlock, Exit.jump]
  refine Sx.ret2 F Try.results20 (Sx.res_row (i := 0) (xs := [.int .u64 ((Wd.hi 0#128).toNat), .int .u64 ((Wd.lo 0#128).toNat)]) rw_24 F H rfl rfl rfl rfl) (Sx.res_tmp (v := .int .i64 11) F rfl) ⟨?_, H.below⟩
  rfl
theorem wtake_ok (f : Nat → Nat) (hf : ∀ k, f k < 256) (va : Value) (w : World) (ha : By.Rd w va f 16) : Calls Try.prog 20 #[va] w fun e w' => e = .returned (.tuple #[.agg #[.int .u64 ((Wd.hi (By.val f 16)).toNat), .int .u64 ((Wd.lo (By.val f 16)).toNat)], .int .i64 0]) ∧ Below w.heap.size w w' := by
  obtain ⟨hl, ada, capa, rfl, hca⟩ := ha
  exact wtake_s f hf ada capa w hca
theorem wtake_no (f : Nat → Nat) (va : Value) (len : Nat) (hn : len ≠ 16) (w : World) (ha : By.Rd w va f len) : Calls Try.prog 20 #[va] w fun e w' => e = .returned (.tuple #[.agg #[.int .u64 ((Wd.hi 0#128).toNat), .int .u64 ((Wd.lo 0#128).toNat)], .int .i64 11]) ∧ Below w.heap.size w w' := by
  obtain ⟨hl, ada, capa, rfl, hca⟩ := ha
  exact wtake_n ada len capa hn w
end Go.Proofs.Ytpbdffmgendboab
