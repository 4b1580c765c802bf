/- TableCopies walked. -/
import Derived.Test.YtpbdffmgendboabTw
import Derived.Test.YtpbdffmgendboabActPlain
namespace Go.Proofs.Ytpbdffmgendboab
open Go Go.RowKit
set_option maxRecDepth 100000 in
theorem tsame_c (x : BitVec 64) (w0 : World) : Calls Try.prog 49 #[.int .u64 x.toNat] w0 fun e w' => e = .returned (.int .u64 x.toNat) ∧ Below w0.heap.size w0 w' := by
  refine Sx.enter (args := [.int .u64 x.toNat]) Try.func49 rfl Try.ntmps49 (Nat.le_of_ble_eq_true rfl) (fun A F => ?_)
  have H := Sx.Own.start w0
  refine Sx.seq (fun K1 hK1 => ?_)
  refine Sx.plain ?_
  refine Sx.sv F (Sx.d_move F (Or.inr rfl) rfl) (Sx.wanted_none rfl _) rfl (by decide) (fun A F => ?_)
  refine Sx.nil ?_
  refine hK1 _ _ ?_
  refine Sx.seq (fun K2 hK2 => ?_)
  refine Sx.plain ?_
  refine Sx.sv F (Sx.d_move F (Or.inl rfl) rfl) (Sx.wanted_none rfl _) rfl (by decide) (fun A F => ?_)
  refine Sx.sv F (Sx.d_move F (Or.inr rfl) rfl) (Sx.wanted_none rfl _) rfl (by decide) (fun A F => ?_)
  refine Sx.nil ?_
  refine hK2 _ _ ?_
  refine wp_ret ?_
  try dsimp only [Exit.then, Exit.inBlock, Exit.jump]
  refine Sx.ret1 F Try.results49 (Sx.res_tmp (v := .int .u64 x.toNat) F rfl) ⟨?_, H.below⟩
  rfl
set_option maxRecDepth 100000 in
theorem tableCopies_a (al bl : List Tb.Act) (ada adb : Option Addr) (capa capb : Nat) (hl : 100 < al.length) (w0 : World) : Calls Try.prog 9 #[.slice ada al.length capa, .slice adb bl.length capb] w0 fun e w' => e = .returned (.bool true) ∧ Below w0.heap.size w0 w' := by
  refine Sx.enter (args := [.slice ada al.length capa, .slice adb bl.length capb]) Try.func9 rfl Try.ntmps9 (Nat.le_of_ble_eq_true rfl) (fun A F => ?_)
  have H := Sx.Own.start w0
  refine Sx.seq (fun K1 hK1 => ?_)
  refine Sx.plain ?_
  refine Sx.sv F (Sx.d_move F (Or.inr rfl) rfl) (Sx.wanted_none rfl _) rfl (by decide) (fun A F => ?_)
  refine Sx.nil ?_
  refine hK1 _ _ ?_
  refine Sx.seq (fun K2 hK2 => ?_)
  refine Sx.seq (fun K3 hK3 => ?_)
  refine Sx.plain ?_
  refine Sx.sw F (Sx.d_call (vs := []) (v := .bool true) if_36 F H rfl rfl (awake19_c _)) (Sx.wanted_none rfl _) rfl (by decide) (fun A w F H => ?_)
  refine Sx.sv F (Sx.d_un (v := .bool false) F rfl rfl rfl) (Sx.wanted_none rfl _) rfl (by decide) (fun A F => ?_)
  refine Sx.nil ?_
  refine hK3 _ _ ?_
  refine Sx.condF F rfl ?_
  refine wp_skip ?_
  refine hK2 _ _ ?_
  refine Sx.seq (fun K4 hK4 => ?_)
  refine Sx.seq (fun K5 hK5 => ?_)
  refine Sx.plain ?_
  refine Sx.sv F (Sx.d_move F (Or.inl rfl) rfl) (Sx.wanted_none rfl _) rfl (by decide) (fun A F => ?_)
  refine Sx.sv F (Sx.d_lenS el_58 F rfl rfl) (Sx.wanted_none rfl _) rfl (by decide) (fun A F => ?_)
  refine Sx.sv F (Sx.d_bin (v := .bool true) F rfl rfl rfl (Sx.i_gt (decide_eq_true (by omega)))) (Sx.wanted_none rfl _) rfl (by decide) (fun A F => ?_)
  refine Sx.sv F (Sx.d_move F (Or.inl rfl) rfl) (Sx.wanted_none rfl _) rfl (by decide) (fun A F => ?_)
  refine Sx.su F (Sx.wanted_off rfl (Sx.guard_known (d := 24) (b := true) F rfl rfl) rfl) rfl (by decide) (fun A F => ?_)
  refine Sx.su F (Sx.wanted_off rfl (Sx.guard_known (d := 24) (b := true) F rfl rfl) rfl) rfl (by decide) (fun A F => ?_)
  refine Sx.su F (Sx.wanted_off rfl (Sx.guard_known (d := 24) (b := true) F rfl rfl) rfl) rfl (by decide) (fun A F => ?_)
  refine Sx.sv F (Sx.d_pickT (v := .bool true) F rfl rfl rfl) (Sx.wanted_none rfl _) rfl (by decide) (fun A F => ?_)
  refine Sx.nil ?_
  refine hK5 _ _ ?_
  refine Sx.condT F rfl ?_
  refine Sx.seq (fun K6 hK6 => ?_)
  refine Sx.plain ?_
  refine Sx.sv F (Sx.d_move F (Or.inr rfl) rfl) (Sx.wanted_none rfl _) rfl (by decide) (fun A F => ?_)
  refine Sx.nil ?_
  refine hK6 _ _ ?_
  refine wp_ret ?_
  try dsimp only [Exit.then, Exit.inBlock, Exit.jump]
  refine Sx.ret1 F Try.results9 (Sx.res_tmp (v := .bool true) F rfl) ⟨?_, H.below⟩
  rfl
set_option maxRecDepth 100000 in
theorem tableCopies_b (al bl : List Tb.Act) (ada adb : Option Addr) (capa capb : Nat) (hl : al.length ≤ 100) (hl2 : 100 < bl.length) (w0 : World) : Calls Try.prog 9 #[.slice ada al.length capa, .slice adb bl.length capb] w0 fun e w' => e = .returned (.bool true) ∧ Below w0.heap.size w0 w' := by
  refine Sx.enter (args := [.slice ada al.length capa, .slice adb bl.length capb]) Try.func9 rfl Try.ntmps9 (Nat.le_of_ble_eq_true rfl) (fun A F => ?_)
  have H := Sx.Own.start w0
  refine Sx.seq (fun K1 hK1 => ?_)
  refine Sx.plain ?_
  refine Sx.sv F (Sx.d_move F (Or.inr rfl) rfl) (Sx.wanted_none rfl _) rfl (by decide) (fun A F => ?_)
  refine Sx.nil ?_
  refine hK1 _ _ ?_
  refine Sx.seq (fun K2 hK2 => ?_)
  refine Sx.seq (fun K3 hK3 => ?_)
  refine Sx.plain ?_
  refine Sx.sw F (Sx.d_call (vs := []) (v := .bool true) if_36 F H rfl rfl (awake19_c _)) (Sx.wanted_none rfl _) rfl (by decide) (fun A w F H => ?_)
  refine Sx.sv F (Sx.d_un (v := .bool false) F rfl rfl rfl) (Sx.wanted_none rfl _) rfl (by decide) (fun A F => ?_)
  refine Sx.nil ?_
  refine hK3 _ _ ?_
  refine Sx.condF F rfl ?_
  refine wp_skip ?_
  refine hK2 _ _ ?_
  refine Sx.seq (fun K4 hK4 => ?_)
  refine Sx.seq (fun K5 hK5 => ?_)
  refine Sx.plain ?_
  refine Sx.sv F (Sx.d_move F (Or.inl rfl) rfl) (Sx.wanted_none rfl _) rfl (by decide) (fun A F => ?_)
  refine Sx.sv F (Sx.d_lenS el_58 F rfl rfl) (Sx.wanted_none rfl _) rfl (by decide) (fun A F => ?_)
  refine Sx.sv F (Sx.d_bin (v := .bool false) F rfl rfl rfl (Sx.i_gt (decide_eq_false (by omega)))) (Sx.wanted_none rfl _) rfl (by decide) (fun A F => ?_)
  refine Sx.sv F (Sx.d_move F (Or.inl rfl) rfl) (Sx.wanted_none rfl _) rfl (by decide) (fun A F => ?_)
  refine Sx.sv F (Sx.d_move F (Or.inl rfl) rfl) (Sx.wanted_on rfl (Sx.guard_known (d := 24) (b := false) F rfl rfl) rfl) rfl (by decide) (fun A F => ?_)
  refine Sx.sv F (Sx.d_lenS el_58 F rfl rfl) (Sx.wanted_on rfl (Sx.guard_known (d := 24) (b := false) F rfl rfl) rfl) rfl (by decide) (fun A F => ?_)
  refine Sx.sv F (Sx.d_bin (v := .bool true) F rfl rfl rfl (Sx.i_gt (decide_eq_true (by omega)))) (Sx.wanted_on rfl (Sx.guard_known (d := 24) (b := false) F rfl rfl) rfl) rfl (by decide) (fun A F => ?_)
  refine Sx.sv F (Sx.d_pickF (v := .bool true) F rfl rfl rfl) (Sx.wanted_none rfl _) rfl (by decide) (fun A F => ?_)
  refine Sx.nil ?_
  refine hK5 _ _ ?_
  refine Sx.condT F rfl ?_
  refine Sx.seq (fun K6 hK6 => ?_)
  refine Sx.plain ?_
  refine Sx.sv F (Sx.d_move F (Or.inr rfl) rfl) (Sx.wanted_none rfl _) rfl (by decide) (fun A F => ?_)
  refine Sx.nil ?_
  refine hK6 _ _ ?_
  refine wp_ret ?_
  try dsimp only [Exit.then, Exit.inBlock, Exit.jump]
  refine Sx.ret1 F Try.results9 (Sx.res_tmp (v := .bool true) F rfl) ⟨?_, H.below⟩
  rfl
set_option maxHeartbeats 4000000 in
set_option maxRecDepth 100000 in
theorem tableCopies_s (al bl : List Tb.Act) (ada adb : Option Addr) (capa capb : Nat) (hl : al.length ≤ 100) (hl2 : bl.length ≤ 100) (w0 : World) (hba : ∀ a ∈ al, -9223372036854775808 ≤ a.h ∧ a.h ≤ 9223372036854775807) (hca : ∀ k a, al[k]? = some a → ∃ g o, ada = some ⟨g, o, none⟩ ∧ w0.cell? ⟨g, o + k * 3, none⟩ = some (.int .i64 a.d) ∧ w0.cell? ⟨g, o + k * 3 + 1, none⟩ = some (.int .i64 a.h) ∧ w0.cell? ⟨g, o + k * 3 + 2, none⟩ = some (.int .u64 (a.x.toNat : Nat))) (hbb : ∀ a ∈ bl, -9223372036854775808 ≤ a.h ∧ a.h ≤ 9223372036854775807) (hcb : ∀ k a, bl[k]? = some a → ∃ g o, adb = some ⟨g, o, none⟩ ∧ w0.cell? ⟨g, o + k * 3, none⟩ = some (.int .i64 a.d) ∧ w0.cell? ⟨g, o + k * 3 + 1, none⟩ = some (.int .i64 a.h) ∧ w0.cell? ⟨g, o + k * 3 + 2, none⟩ = some (.int .u64 (a.x.toNat : Nat))) : Calls Try.prog 9 #[.slice ada al.length capa, .slice adb bl.length capb] w0 fun e w' => e = .returned (.bool true) ∧ Below w0.heap.size w0 w' := by
  refine Sx.enter (args := [.slice ada al.length capa, .slice adb bl.length capb]) Try.func9 rfl Try.ntmps9 (Nat.le_of_ble_eq_true rfl) (fun A F => ?_)
  have H := Sx.Own.start w0
  refine Sx.seq (fun K1 hK1 => ?_)
  refine Sx.plain ?_
  refine Sx.sv F (Sx.d_move F (Or.inr rfl) rfl) (Sx.wanted_none rfl _) rfl (by decide) (fun A F => ?_)
  refine Sx.nil ?_
  refine hK1 _ _ ?_
  refine Sx.seq (fun K2 hK2 => ?_)
  refine Sx.seq (fun K3 hK3 => ?_)
  refine Sx.plain ?_
  refine Sx.sw F (Sx.d_call (vs := []) (v := .bool true) if_36 F H rfl rfl (awake19_c _)) (Sx.wanted_none rfl _) rfl (by decide) (fun A w F H => ?_)
  refine Sx.sv F (Sx.d_un (v := .bool false) F rfl rfl rfl) (Sx.wanted_none rfl _) rfl (by decide) (fun A F => ?_)
  refine Sx.nil ?_
  refine hK3 _ _ ?_
  refine Sx.condF F rfl ?_
  refine wp_skip ?_
  refine hK2 _ _ ?_
  refine Sx.seq (fun K4 hK4 => ?_)
  refine Sx.seq (fun K5 hK5 => ?_)
  refine Sx.plain ?_
  refine Sx.sv F (Sx.d_move F (Or.inl rfl) rfl) (Sx.wanted_none rfl _) rfl (by decide) (fun A F => ?_)
  refine Sx.sv F (Sx.d_lenS el_58 F rfl rfl) (Sx.wanted_none rfl _) rfl (by decide) (fun A F => ?_)
  refine Sx.sv F (Sx.d_bin (v := .bool false) F rfl rfl rfl (Sx.i_gt (decide_eq_false (by omega)))) (Sx.wanted_none rfl _) rfl (by decide) (fun A F => ?_)
  refine Sx.sv F (Sx.d_move F (Or.inl rfl) rfl) (Sx.wanted_none rfl _) rfl (by decide) (fun A F => ?_)
  refine Sx.sv F (Sx.d_move F (Or.inl rfl) rfl) (Sx.wanted_on rfl (Sx.guard_known (d := 24) (b := false) F rfl rfl) rfl) rfl (by decide) (fun A F => ?_)
  refine Sx.sv F (Sx.d_lenS el_58 F rfl rfl) (Sx.wanted_on rfl (Sx.guard_known (d := 24) (b := false) F rfl rfl) rfl) rfl (by decide) (fun A F => ?_)
  refine Sx.sv F (Sx.d_bin (v := .bool false) F rfl rfl rfl (Sx.i_gt (decide_eq_false (by omega)))) (Sx.wanted_on rfl (Sx.guard_known (d := 24) (b := false) F rfl rfl) rfl) rfl (by decide) (fun A F => ?_)
  refine Sx.sv F (Sx.d_pickF (v := .bool false) F rfl rfl rfl) (Sx.wanted_none rfl _) rfl (by decide) (fun A F => ?_)
  refine Sx.nil ?_
  refine hK5 _ _ ?_
  refine Sx.condF F rfl ?_
  refine wp_skip ?_
  refine hK4 _ _ ?_
  refine Sx.seq (fun K6 hK6 => ?_)
  refine Sx.plain ?_
  refine Sx.sj F (Sx.d_callO (vs := []) if_37 F rfl rfl (Sx.jj H (tnew_c _))) (Sx.wanted_none rfl _) rfl (by decide) (fun g1 v1 A w F (H : Sx.Own w0 _ [(true, g1, [v1, .int .i64 Tb.S.new.n])] [⟨true, v1, 107, 2, Tb.S.new.l.length, (Tb.cells Tb.S.new.l)⟩]) => ?_)
  refine Sx.sv F (Sx.d_move F (Or.inr rfl) rfl) (Sx.wanted_none rfl _) rfl (by decide) (fun A F => ?_)
  refine Sx.nil ?_
  refine hK6 _ _ ?_
  refine Sx.seq (fun K7 hK7 => ?_)
  refine Sx.seq (fun K8 hK8 => ?_)
  refine Sx.plain ?_
  refine Sx.sv F (Sx.d_move F (Or.inl rfl) rfl) (Sx.wanted_none rfl _) rfl (by decide) (fun A F => ?_)
  refine Sx.sv F (Sx.d_bin (v := .bool false) F rfl rfl rfl Sx.pnil) (Sx.wanted_none rfl _) rfl (by decide) (fun A F => ?_)
  refine Sx.nil ?_
  refine hK8 _ _ ?_
  refine Sx.condF F rfl ?_
  refine wp_skip ?_
  refine hK7 _ _ ?_
  refine Sx.seq (fun K9 hK9 => ?_)
  refine Sx.seq (fun K10 hK10 => ?_)
  refine Sx.plain ?_
  refine Sx.sv F (Sx.d_move F (Or.inl rfl) rfl) (Sx.wanted_none rfl _) rfl (by decide) (fun A F => ?_)
  refine Sx.sv F (Sx.d_lenS el_58 F rfl rfl) (Sx.wanted_none rfl _) rfl (by decide) (fun A F => ?_)
  refine Sx.sv F (Sx.d_move F (Or.inl rfl) rfl) (Sx.wanted_none rfl _) rfl (by decide) (fun A F => ?_)
  refine Sx.nil ?_
  refine hK10 _ _ ?_
  refine wp_block ?_
  refine Sx.loop (fun q A w => ∃ (i : Nat) (sT : Tb.S) (v : Value), q = al.length - i ∧ i ≤ al.length ∧ sT.ok ∧ Sx.Fr 110 A [(1, .slice adb bl.length capb), (5, .pointer (some ⟨g1, 0, none⟩)), (32, .slice ada al.length capa), (33, .int .i64 al.length), (34, .int .i64 i)] ∧ Sx.Own w0 w [(true, g1, [v, .int .i64 sT.n])] [⟨true, v, 107, 2, sT.l.length, (Tb.cells sT.l)⟩]) al.length ⟨0, Tb.S.new, v1, rfl, Nat.zero_le _, Tb.S.ok.new, F.to ⟨rfl, rfl, rfl, rfl, rfl, trivial⟩, H.to' [0] [0] (by decide) (by decide) rfl rfl⟩ ?_
  rintro q A w ⟨i, sT, v, rfl, hi, hok, F, H⟩
  by_cases hlt : i < al.length
  · obtain ⟨a, ha⟩ : ∃ a, al[i]? = some a := ⟨_, List.getElem?_eq_getElem hlt⟩
    obtain ⟨ga, oa, hada, hcell0, hcell1, hcell2⟩ := hca i a ha
    have hbh := hba a (List.mem_of_getElem? ha)
    refine Sx.seq (fun K11 hK11 => ?_)
    refine Sx.plain ?_
    refine Sx.sv F (Sx.d_bin (v := .bool true) F rfl rfl rfl (Sx.i_lt (decide_eq_true (by omega)))) (Sx.wanted_none rfl _) rfl (by decide) (fun A F => ?_)
    refine Sx.nil ?_
    refine hK11 _ _ ?_
    refine Sx.seq (fun K12 hK12 => ?_)
    refine Sx.condT F rfl ?_
    refine wp_skip ?_
    refine hK12 _ _ ?_
    refine Sx.seq (fun K13 hK13 => ?_)
    refine wp_block ?_
    refine Sx.seq (fun K14 hK14 => ?_)
    refine Sx.plain ?_
    refine Sx.sv F (Sx.d_ixZ (k := i) (g := ga) (off := oa) (z := 3) el_58 F rfl rfl hada rfl (rfl) (by omega)) (Sx.wanted_none rfl _) rfl (by decide) (fun A F => ?_)
    refine Sx.sv F (Sx.d_loadF3 rw_66 F H rfl rfl hcell0 hcell1 hcell2) (Sx.wanted_none rfl _) rfl (by decide) (fun A F => ?_)
    refine Sx.sb F (Sx.d_alloc H rfl [.int .i64 0, .int .i64 0, .int .u64 0] zero_66) (Sx.wanted_none rfl _) rfl (by decide) (fun g2 A w F H => ?_)
    refine Sx.ss F (Sx.d_store (i := 0) (xs := [.int .i64 a.d, .int .i64 a.h, .int .u64 a.x.toNat]) (us := [.int .i64 a.d, .int .i64 a.h, .int .u64 a.x.toNat]) sz_66 F H rfl rfl rfl rfl rfl rfl rfl (Nat.le_of_ble_eq_true rfl) rfl) (Sx.wanted_none rfl _) rfl (fun A w F (H : Sx.Own w0 _ [(true, g2, [.int .i64 a.d, .int .i64 a.h, .int .u64 a.x.toNat]), (true, g1, [v, .int .i64 sT.n])] [⟨true, v, 107, 2, sT.l.length, (Tb.cells sT.l)⟩]) => ?_)
    refine Sx.nil ?_
    refine hK14 _ _ ?_
    refine Sx.plain ?_
    refine Sx.sv F (Sx.d_move F (Or.inl rfl) rfl) (Sx.wanted_none rfl _) rfl (by decide) (fun A F => ?_)
    refine Sx.sv F (Sx.d_load (i := 0) (xs := [.int .i64 a.d, .int .i64 a.h, .int .u64 a.x.toNat]) rw_66 F H rfl rfl rfl rfl rfl) (Sx.wanted_none rfl _) rfl (by decide) (fun A F => ?_)
    have H : Sx.Own w0 w [(true, g1, [v, .int .i64 sT.n]), (true, g2, [.int .i64 a.d, .int .i64 a.h, .int .u64 a.x.toNat])] [⟨true, v, 107, 2, sT.l.length, (Tb.cells sT.l)⟩] := H.to' [1, 0] [0] (by decide) (by decide) rfl rfl
    refine Sx.so (x := .tuple #[.int .i64 (Tb.S.doh sT a.d a.h), .int .i64 (Tb.S.doe sT a.d a.h)]) F (Sx.d_callO (vs := [.pointer (some ⟨g1, 0, none⟩), .agg #[.int .i64 a.d, .int .i64 a.h, .int .u64 a.x.toNat]]) if_38 F rfl rfl (Sx.oo (tdo_k sT a.d a.h (by omega) a.x hok _ _ _ _ H))) (Sx.wanted_none rfl _) rfl (by decide) (fun v2 A w F (H : Sx.Own w0 _ [(true, g1, [v2, .int .i64 ((Tb.S.act sT a.d a.h a.x).n)]), (true, g2, [.int .i64 a.d, .int .i64 a.h, .int .u64 a.x.toNat])] [⟨true, v2, 107, 2, (Tb.S.act sT a.d a.h a.x).l.length, (Tb.cells (Tb.S.act sT a.d a.h a.x).l)⟩]) => ?_)
    refine Sx.nil ?_
    refine hK13 _ _ ?_
    refine Sx.plain ?_
    refine Sx.sv F (Sx.d_bin (v := .int .i64 (i + 1 : Nat)) F rfl rfl rfl (Sx.i_addN rfl (Sx.in_i64 _ (by omega)))) (Sx.wanted_none rfl _) rfl (by decide) (fun A F => ?_)
    refine Sx.sv F (Sx.d_move F (Or.inl rfl) rfl) (Sx.wanted_none rfl _) rfl (by decide) (fun A F => ?_)
    refine Sx.nil ?_
    try dsimp only [Exit.then]
    exact ⟨al.length - (i + 1), by omega, i + 1, Tb.S.act sT a.d a.h a.x, v2, rfl, by omega, hok.act _ _ _, F.to ⟨rfl, rfl, rfl, rfl, rfl, trivial⟩, H.to' [0] [0] (by decide) (by decide) rfl rfl⟩
  · have hie : i = al.length := by omega
    rw [hie] at F
    refine Sx.seq (fun K15 hK15 => ?_)
    refine Sx.plain ?_
    refine Sx.sv F (Sx.d_bin (v := .bool false) F rfl rfl rfl (Sx.i_lt (by simp))) (Sx.wanted_none rfl _) rfl (by decide) (fun A F => ?_)
    refine Sx.nil ?_
    refine hK15 _ _ ?_
    refine Sx.seq (fun K16 hK16 => ?_)
    refine Sx.condF F rfl ?_
    refine wp_exit ?_
    try dsimp only [Exit.then, Exit.jump]
    refine Sx.exit_here ?_
    refine hK9 _ _ ?_
    refine Sx.seq (fun K17 hK17 => ?_)
    refine Sx.plain ?_
    refine Sx.sv F (Sx.d_move F (Or.inr rfl) rfl) (Sx.wanted_none rfl _) rfl (by decide) (fun A F => ?_)
    refine Sx.nil ?_
    refine hK17 _ _ ?_
    refine Sx.seq (fun K18 hK18 => ?_)
    refine Sx.plain ?_
    refine Sx.sv F (Sx.d_move F (Or.inl rfl) rfl) (Sx.wanted_none rfl _) rfl (by decide) (fun A F => ?_)
    refine Sx.sv F (Sx.d_move F (Or.inl rfl) rfl) (Sx.wanted_none rfl _) rfl (by decide) (fun A F => ?_)
    refine Sx.sj F (Sx.d_callO (vs := [.pointer (some ⟨g1, 0, none⟩), .func (.func 49) #[] #[]]) if_50 F rfl rfl (Sx.jj H (tcopy_c sT hok 49 (fun v => v) if_49 (fun x w => tsame_c x w) _ _ (Tb.See.own (i := 0) (j := 0) H rfl rfl)))) (Sx.wanted_none rfl _) rfl (by decide) (fun g3 v3 A w F (H : Sx.Own w0 _ [(true, g3, [v3, .int .i64 ((Tb.S.map sT (fun v => v)).n)]), (true, g1, [v, .int .i64 sT.n])] [⟨true, v3, 107, 2, (Tb.S.map sT (fun v => v)).l.length, (Tb.cells (Tb.S.map sT (fun v => v)).l)⟩, ⟨true, v, 107, 2, sT.l.length, (Tb.cells sT.l)⟩]) => ?_)
    refine Sx.sv F (Sx.d_move F (Or.inl rfl) rfl) (Sx.wanted_none rfl _) rfl (by decide) (fun A F => ?_)
    refine Sx.sv F (Sx.d_move F (Or.inl rfl) rfl) (Sx.wanted_none rfl _) rfl (by decide) (fun A F => ?_)
    refine Sx.sj F (Sx.d_callO (vs := [.pointer (some ⟨g1, 0, none⟩), .func (.func 49) #[] #[]]) if_50 F rfl rfl (Sx.jj H (tcopy_c sT hok 49 (fun v => v) if_49 (fun x w => tsame_c x w) _ _ (Tb.See.own (i := 1) (j := 1) H rfl rfl)))) (Sx.wanted_none rfl _) rfl (by decide) (fun g4 v4 A w F (H : Sx.Own w0 _ [(true, g4, [v4, .int .i64 ((Tb.S.map sT (fun v => v)).n)]), (true, g3, [v3, .int .i64 ((Tb.S.map sT (fun v => v)).n)]), (true, g1, [v, .int .i64 sT.n])] [⟨true, v4, 107, 2, (Tb.S.map sT (fun v => v)).l.length, (Tb.cells (Tb.S.map sT (fun v => v)).l)⟩, ⟨true, v3, 107, 2, (Tb.S.map sT (fun v => v)).l.length, (Tb.cells (Tb.S.map sT (fun v => v)).l)⟩, ⟨true, v, 107, 2, sT.l.length, (Tb.cells sT.l)⟩]) => ?_)
    refine Sx.sv F (Sx.d_move F (Or.inr rfl) rfl) (Sx.wanted_none rfl _) rfl (by decide) (fun A F => ?_)
    refine Sx.sv F (Sx.d_move F (Or.inr rfl) rfl) (Sx.wanted_none rfl _) rfl (by decide) (fun A F => ?_)
    refine Sx.nil ?_
    refine hK18 _ _ ?_
    refine Sx.seq (fun K19 hK19 => ?_)
    refine Sx.seq (fun K20 hK20 => ?_)
    refine Sx.plain ?_
    refine Sx.sv F (Sx.d_move F (Or.inl rfl) rfl) (Sx.wanted_none rfl _) rfl (by decide) (fun A F => ?_)
    refine Sx.sv F (Sx.d_bin (v := .bool false) F rfl rfl rfl Sx.pnil) (Sx.wanted_none rfl _) rfl (by decide) (fun A F => ?_)
    refine Sx.sv F (Sx.d_move F (Or.inl rfl) rfl) (Sx.wanted_none rfl _) rfl (by decide) (fun A F => ?_)
    refine Sx.sv F (Sx.d_move F (Or.inl rfl) rfl) (Sx.wanted_on rfl (Sx.guard_known (d := 50) (b := false) F rfl rfl) rfl) rfl (by decide) (fun A F => ?_)
    refine Sx.sv F (Sx.d_bin (v := .bool false) F rfl rfl rfl Sx.pnil) (Sx.wanted_on rfl (Sx.guard_known (d := 50) (b := false) F rfl rfl) rfl) rfl (by decide) (fun A F => ?_)
    refine Sx.sv F (Sx.d_pickF (v := .bool false) F rfl rfl rfl) (Sx.wanted_none rfl _) rfl (by decide) (fun A F => ?_)
    refine Sx.nil ?_
    refine hK20 _ _ ?_
    refine Sx.condF F rfl ?_
    refine wp_skip ?_
    refine hK19 _ _ ?_
    refine Sx.seq (fun K21 hK21 => ?_)
    refine Sx.plain ?_
    refine Sx.sv F (Sx.d_move F (Or.inl rfl) rfl) (Sx.wanted_none rfl _) rfl (by decide) (fun A F => ?_)
    refine Sx.sr (mk := fun v => v) F (Sx.d_callR (vs := [.pointer (some ⟨g1, 0, none⟩)]) (mk := fun v => v) if_47 F H rfl rfl (thandles_c sT hok _ _ (Tb.See.own (i := 2) (j := 2) H rfl rfl))) (Sx.wanted_none rfl _) rfl (by decide) (fun v5 A w F (H : Sx.Own w0 _ [(true, g4, [v4, .int .i64 ((Tb.S.map sT (fun v => v)).n)]), (true, g3, [v3, .int .i64 ((Tb.S.map sT (fun v => v)).n)]), (true, g1, [v, .int .i64 sT.n])] [⟨true, v5, 3, 1, sT.l.length, (Tb.hs sT.l)⟩, ⟨true, v4, 107, 2, (Tb.S.map sT (fun v => v)).l.length, (Tb.cells (Tb.S.map sT (fun v => v)).l)⟩, ⟨true, v3, 107, 2, (Tb.S.map sT (fun v => v)).l.length, (Tb.cells (Tb.S.map sT (fun v => v)).l)⟩, ⟨true, v, 107, 2, sT.l.length, (Tb.cells sT.l)⟩]) => ?_)
    refine Sx.sv F (Sx.d_move F (Or.inl rfl) rfl) (Sx.wanted_none rfl _) rfl (by decide) (fun A F => ?_)
    refine Sx.sw F (Sx.d_call (vs := [.pointer (some ⟨g1, 0, none⟩)]) (v := .int .i64 sT.n) if_45 F H rfl rfl (tnext0_c sT hok _ _ (Tb.See.own (i := 2) (j := 3) H rfl rfl))) (Sx.wanted_none rfl _) rfl (by decide) (fun A w F H => ?_)
    refine Sx.sv F (Sx.d_move F (Or.inr rfl) rfl) (Sx.wanted_none rfl _) rfl (by decide) (fun A F => ?_)
    refine Sx.sv F (Sx.d_move F (Or.inr rfl) rfl) (Sx.wanted_none rfl _) rfl (by decide) (fun A F => ?_)
    refine Sx.nil ?_
    refine hK21 _ _ ?_
    refine Sx.seq (fun K22 hK22 => ?_)
    refine Sx.seq (fun K23 hK23 => ?_)
    refine Sx.plain ?_
    refine Sx.sv F (Sx.d_move F (Or.inl rfl) rfl) (Sx.wanted_none rfl _) rfl (by decide) (fun A F => ?_)
    refine Sx.sv F (Sx.d_lenS el_58 F rfl rfl) (Sx.wanted_none rfl _) rfl (by decide) (fun A F => ?_)
    refine Sx.sv F (Sx.d_move F (Or.inl rfl) rfl) (Sx.wanted_none rfl _) rfl (by decide) (fun A F => ?_)
    refine Sx.nil ?_
    refine hK23 _ _ ?_
    refine wp_block ?_
    refine Sx.loop (fun q A w => ∃ (j : Nat) (s2 : Tb.S) (vc vd : Value), q = bl.length - j ∧ j ≤ bl.length ∧ s2.ok ∧ Sx.Fr 110 A [(5, .pointer (some ⟨g1, 0, none⟩)), (9, .pointer (some ⟨g3, 0, none⟩)), (10, .pointer (some ⟨g4, 0, none⟩)), (11, v5), (12, .int .i64 sT.n), (58, .slice adb bl.length capb), (59, .int .i64 bl.length), (60, .int .i64 j)] ∧ Sx.Own w0 w [(true, g1, [v, .int .i64 sT.n]), (true, g3, [vc, .int .i64 s2.n]), (true, g4, [vd, .int .i64 s2.n])] [⟨true, v, 107, 2, sT.l.length, (Tb.cells sT.l)⟩, ⟨true, vc, 107, 2, s2.l.length, (Tb.cells s2.l)⟩, ⟨true, vd, 107, 2, s2.l.length, (Tb.cells s2.l)⟩, ⟨true, v5, 3, 1, sT.l.length, (Tb.hs sT.l)⟩]) bl.length ⟨0, Tb.S.map sT (fun v => v), v3, v4, rfl, Nat.zero_le _, hok.map _, F.to ⟨rfl, rfl, rfl, rfl, rfl, rfl, rfl, rfl, trivial⟩, H.to' [2, 1, 0] [3, 2, 1, 0] (by decide) (by decide) rfl rfl⟩ ?_
    rintro q A w ⟨j, s2, vc, vd, rfl, hj, hok2, F, H⟩
    by_cases hlt2 : j < bl.length
    · obtain ⟨a, ha⟩ : ∃ a, bl[j]? = some a := ⟨_, List.getElem?_eq_getElem hlt2⟩
      obtain ⟨ga, oa, hada, hcell0, hcell1, hcell2⟩ := hcb j a ha
      have hbh := hbb a (List.mem_of_getElem? ha)
      refine Sx.seq (fun K24 hK24 => ?_)
      refine Sx.plain ?_
      refine Sx.sv F (Sx.d_bin (v := .bool true) F rfl rfl rfl (Sx.i_lt (decide_eq_true (by omega)))) (Sx.wanted_none rfl _) rfl (by decide) (fun A F => ?_)
      refine Sx.nil ?_
      refine hK24 _ _ ?_
      refine Sx.seq (fun K25 hK25 => ?_)
      refine Sx.condT F rfl ?_
      refine wp_skip ?_
      refine hK25 _ _ ?_
      refine Sx.seq (fun K26 hK26 => ?_)
      refine wp_block ?_
      refine Sx.seq (fun K27 hK27 => ?_)
      refine Sx.plain ?_
      refine Sx.sv F (Sx.d_ixZ (k := j) (g := ga) (off := oa) (z := 3) el_58 F rfl rfl hada rfl (rfl) (by omega)) (Sx.wanted_none rfl _) rfl (by decide) (fun A F => ?_)
      refine Sx.sv F (Sx.d_loadF3 rw_66 F H rfl rfl hcell0 hcell1 hcell2) (Sx.wanted_none rfl _) rfl (by decide) (fun A F => ?_)
      refine Sx.sb F (Sx.d_alloc H rfl [.int .i64 0, .int .i64 0, .int .u64 0] zero_66) (Sx.wanted_none rfl _) rfl (by decide) (fun g5 A w F H => ?_)
      refine Sx.ss F (Sx.d_store (i := 0) (xs := [.int .i64 a.d, .int .i64 a.h, .int .u64 a.x.toNat]) (us := [.int .i64 a.d, .int .i64 a.h, .int .u64 a.x.toNat]) sz_66 F H rfl rfl rfl rfl rfl rfl rfl (Nat.le_of_ble_eq_true rfl) rfl) (Sx.wanted_none rfl _) rfl (fun A w F (H : Sx.Own w0 _ [(true, g5, [.int .i64 a.d, .int .i64 a.h, .int .u64 a.x.toNat]), (true, g1, [v, .int .i64 sT.n]), (true, g3, [vc, .int .i64 s2.n]), (true, g4, [vd, .int .i64 s2.n])] [⟨true, v, 107, 2, sT.l.length, (Tb.cells sT.l)⟩, ⟨true, vc, 107, 2, s2.l.length, (Tb.cells s2.l)⟩, ⟨true, vd, 107, 2, s2.l.length, (Tb.cells s2.l)⟩, ⟨true, v5, 3, 1, sT.l.length, (Tb.hs sT.l)⟩]) => ?_)
      refine Sx.nil ?_
      refine hK27 _ _ ?_
      refine Sx.seq (fun K28 hK28 => ?_)
      refine Sx.plain ?_
      refine Sx.sv F (Sx.d_move F (Or.inl rfl) rfl) (Sx.wanted_none rfl _) rfl (by decide) (fun A F => ?_)
      refine Sx.sv F (Sx.d_load (i := 0) (xs := [.int .i64 a.d, .int .i64 a.h, .int .u64 a.x.toNat]) rw_66 F H rfl rfl rfl rfl rfl) (Sx.wanted_none rfl _) rfl (by decide) (fun A F => ?_)
      have H : Sx.Own w0 w [(true, g3, [vc, .int .i64 s2.n]), (true, g5, [.int .i64 a.d, .int .i64 a.h, .int .u64 a.x.toNat]), (true, g1, [v, .int .i64 sT.n]), (true, g4, [vd, .int .i64 s2.n])] [⟨true, vc, 107, 2, s2.l.length, (Tb.cells s2.l)⟩, ⟨true, v, 107, 2, sT.l.length, (Tb.cells sT.l)⟩, ⟨true, vd, 107, 2, s2.l.length, (Tb.cells s2.l)⟩, ⟨true, v5, 3, 1, sT.l.length, (Tb.hs sT.l)⟩] := H.to' [2, 0, 1, 3] [1, 0, 2, 3] (by decide) (by decide) rfl rfl
      refine Sx.so (x := .tuple #[.int .i64 (Tb.S.doh s2 a.d a.h), .int .i64 (Tb.S.doe s2 a.d a.h)]) F (Sx.d_callO (vs := [.pointer (some ⟨g3, 0, none⟩), .agg #[.int .i64 a.d, .int .i64 a.h, .int .u64 a.x.toNat]]) if_38 F rfl rfl (Sx.oo (tdo_k s2 a.d a.h (by omega) a.x hok2 _ _ _ _ H))) (Sx.wanted_none rfl _) rfl (by decide) (fun v6 A w F (H : Sx.Own w0 _ [(true, g3, [v6, .int .i64 ((Tb.S.act s2 a.d a.h a.x).n)]), (true, g5, [.int .i64 a.d, .int .i64 a.h, .int .u64 a.x.toNat]), (true, g1, [v, .int .i64 sT.n]), (true, g4, [vd, .int .i64 s2.n])] [⟨true, v6, 107, 2, (Tb.S.act s2 a.d a.h a.x).l.length, (Tb.cells (Tb.S.act s2 a.d a.h a.x).l)⟩, ⟨true, v, 107, 2, sT.l.length, (Tb.cells sT.l)⟩, ⟨true, vd, 107, 2, s2.l.length, (Tb.cells s2.l)⟩, ⟨true, v5, 3, 1, sT.l.length, (Tb.hs sT.l)⟩]) => ?_)
      refine Sx.sv F (Sx.d_move F (Or.inl rfl) rfl) (Sx.wanted_none rfl _) rfl (by decide) (fun A F => ?_)
      refine Sx.sv F (Sx.d_extract (v := .int .i64 (Tb.S.doh s2 a.d a.h)) F rfl rfl rfl) (Sx.wanted_none rfl _) rfl (by decide) (fun A F => ?_)
      refine Sx.sv F (Sx.d_extract (v := .int .i64 (Tb.S.doe s2 a.d a.h)) F rfl rfl rfl) (Sx.wanted_none rfl _) rfl (by decide) (fun A F => ?_)
      refine Sx.sv F (Sx.d_move F (Or.inr rfl) rfl) (Sx.wanted_none rfl _) rfl (by decide) (fun A F => ?_)
      refine Sx.sv F (Sx.d_move F (Or.inr rfl) rfl) (Sx.wanted_none rfl _) rfl (by decide) (fun A F => ?_)
      refine Sx.nil ?_
      refine hK28 _ _ ?_
      refine Sx.seq (fun K29 hK29 => ?_)
      refine Sx.plain ?_
      refine Sx.sv F (Sx.d_move F (Or.inl rfl) rfl) (Sx.wanted_none rfl _) rfl (by decide) (fun A F => ?_)
      refine Sx.sv F (Sx.d_load (i := 1) (xs := [.int .i64 a.d, .int .i64 a.h, .int .u64 a.x.toNat]) rw_66 F H rfl rfl rfl rfl rfl) (Sx.wanted_none rfl _) rfl (by decide) (fun A F => ?_)
      have H : Sx.Own w0 w [(true, g4, [vd, .int .i64 s2.n]), (true, g3, [v6, .int .i64 ((Tb.S.act s2 a.d a.h a.x).n)]), (true, g5, [.int .i64 a.d, .int .i64 a.h, .int .u64 a.x.toNat]), (true, g1, [v, .int .i64 sT.n])] [⟨true, vd, 107, 2, s2.l.length, (Tb.cells s2.l)⟩, ⟨true, v6, 107, 2, (Tb.S.act s2 a.d a.h a.x).l.length, (Tb.cells (Tb.S.act s2 a.d a.h a.x).l)⟩, ⟨true, v, 107, 2, sT.l.length, (Tb.cells sT.l)⟩, ⟨true, v5, 3, 1, sT.l.length, (Tb.hs sT.l)⟩] := H.to' [3, 0, 1, 2] [2, 0, 1, 3] (by decide) (by decide) rfl rfl
      refine Sx.so (x := .tuple #[.int .i64 (Tb.S.doh s2 a.d a.h), .int .i64 (Tb.S.doe s2 a.d a.h)]) F (Sx.d_callO (vs := [.pointer (some ⟨g4, 0, none⟩), .agg #[.int .i64 a.d, .int .i64 a.h, .int .u64 a.x.toNat]]) if_38 F rfl rfl (Sx.oo (tdo_k s2 a.d a.h (by omega) a.x hok2 _ _ _ _ H))) (Sx.wanted_none rfl _) rfl (by decide) (fun v7 A w F (H : Sx.Own w0 _ [(true, g4, [v7, .int .i64 ((Tb.S.act s2 a.d a.h a.x).n)]), (true, g3, [v6, .int .i64 ((Tb.S.act s2 a.d a.h a.x).n)]), (true, g5, [.int .i64 a.d, .int .i64 a.h, .int .u64 a.x.toNat]), (true, g1, [v, .int .i64 sT.n])] [⟨true, v7, 107, 2, (Tb.S.act s2 a.d a.h a.x).l.length, (Tb.cells (Tb.S.act s2 a.d a.h a.x).l)⟩, ⟨true, v6, 107, 2, (Tb.S.act s2 a.d a.h a.x).l.length, (Tb.cells (Tb.S.act s2 a.d a.h a.x).l)⟩, ⟨true, v, 107, 2, sT.l.length, (Tb.cells sT.l)⟩, ⟨true, v5, 3, 1, sT.l.length, (Tb.hs sT.l)⟩]) => ?_)
      refine Sx.sv F (Sx.d_move F (Or.inl rfl) rfl) (Sx.wanted_none rfl _) rfl (by decide) (fun A F => ?_)
      refine Sx.sv F (Sx.d_extract (v := .int .i64 (Tb.S.doh s2 a.d a.h)) F rfl rfl rfl) (Sx.wanted_none rfl _) rfl (by decide) (fun A F => ?_)
      refine Sx.sv F (Sx.d_extract (v := .int .i64 (Tb.S.doe s2 a.d a.h)) F rfl rfl rfl) (Sx.wanted_none rfl _) rfl (by decide) (fun A F => ?_)
      refine Sx.sv F (Sx.d_move F (Or.inr rfl) rfl) (Sx.wanted_none rfl _) rfl (by decide) (fun A F => ?_)
      refine Sx.sv F (Sx.d_move F (Or.inr rfl) rfl) (Sx.wanted_none rfl _) rfl (by decide) (fun A F => ?_)
      refine Sx.nil ?_
      refine hK29 _ _ ?_
      refine Sx.seq (fun K30 hK30 => ?_)
      refine Sx.plain ?_
      refine Sx.sv F (Sx.d_move F (Or.inl rfl) rfl) (Sx.wanted_none rfl _) rfl (by decide) (fun A F => ?_)
      refine Sx.sv F (Sx.d_move F (Or.inl rfl) rfl) (Sx.wanted_none rfl _) rfl (by decide) (fun A F => ?_)
      refine Sx.sv F (Sx.d_bin (v := .bool false) F rfl rfl rfl (Sx.i_ne (by simp))) (Sx.wanted_none rfl _) rfl (by decide) (fun A F => ?_)
      refine Sx.sv F (Sx.d_move F (Or.inl rfl) rfl) (Sx.wanted_none rfl _) rfl (by decide) (fun A F => ?_)
      refine Sx.sv F (Sx.d_move F (Or.inl rfl) rfl) (Sx.wanted_on rfl (Sx.guard_known (d := 79) (b := false) F rfl rfl) rfl) rfl (by decide) (fun A F => ?_)
      refine Sx.sv F (Sx.d_move F (Or.inl rfl) rfl) (Sx.wanted_on rfl (Sx.guard_known (d := 79) (b := false) F rfl rfl) rfl) rfl (by decide) (fun A F => ?_)
      refine Sx.sv F (Sx.d_bin (v := .bool false) F rfl rfl rfl (Sx.i_ne (by simp))) (Sx.wanted_on rfl (Sx.guard_known (d := 79) (b := false) F rfl rfl) rfl) rfl (by decide) (fun A F => ?_)
      refine Sx.sv F (Sx.d_pickF (v := .bool false) F rfl rfl rfl) (Sx.wanted_none rfl _) rfl (by decide) (fun A F => ?_)
      refine Sx.sv F (Sx.d_move F (Or.inl rfl) rfl) (Sx.wanted_none rfl _) rfl (by decide) (fun A F => ?_)
      refine Sx.sv F (Sx.d_move F (Or.inl rfl) rfl) (Sx.wanted_on rfl (Sx.guard_known (d := 84) (b := false) F rfl rfl) rfl) rfl (by decide) (fun A F => ?_)
      refine Sx.sr (mk := fun v => v) F (Sx.d_callR (vs := [.pointer (some ⟨g3, 0, none⟩)]) (mk := fun v => v) if_47 F H rfl rfl (thandles_c (Tb.S.act s2 a.d a.h a.x) (Tb.S.ok.act hok2 a.d a.h a.x) _ _ (Tb.See.own (i := 1) (j := 1) H rfl rfl))) (Sx.wanted_on rfl (Sx.guard_known (d := 84) (b := false) F rfl rfl) rfl) rfl (by decide) (fun v8 A w F (H : Sx.Own w0 _ [(true, g4, [v7, .int .i64 ((Tb.S.act s2 a.d a.h a.x).n)]), (true, g3, [v6, .int .i64 ((Tb.S.act s2 a.d a.h a.x).n)]), (true, g5, [.int .i64 a.d, .int .i64 a.h, .int .u64 a.x.toNat]), (true, g1, [v, .int .i64 sT.n])] [⟨true, v8, 3, 1, (Tb.S.act s2 a.d a.h a.x).l.length, (Tb.hs (Tb.S.act s2 a.d a.h a.x).l)⟩, ⟨true, v7, 107, 2, (Tb.S.act s2 a.d a.h a.x).l.length, (Tb.cells (Tb.S.act s2 a.d a.h a.x).l)⟩, ⟨true, v6, 107, 2, (Tb.S.act s2 a.d a.h a.x).l.length, (Tb.cells (Tb.S.act s2 a.d a.h a.x).l)⟩, ⟨true, v, 107, 2, sT.l.length, (Tb.cells sT.l)⟩, ⟨true, v5, 3, 1, sT.l.length, (Tb.hs sT.l)⟩]) => ?_)
      refine Sx.sv F (Sx.d_move F (Or.inl rfl) rfl) (Sx.wanted_on rfl (Sx.guard_known (d := 84) (b := false) F rfl rfl) rfl) rfl (by decide) (fun A F => ?_)
      refine Sx.sr (mk := fun v => v) F (Sx.d_callR (vs := [.pointer (some ⟨g4, 0, none⟩)]) (mk := fun v => v) if_47 F H rfl rfl (thandles_c (Tb.S.act s2 a.d a.h a.x) (Tb.S.ok.act hok2 a.d a.h a.x) _ _ (Tb.See.own (i := 0) (j := 1) H rfl rfl))) (Sx.wanted_on rfl (Sx.guard_known (d := 84) (b := false) F rfl rfl) rfl) rfl (by decide) (fun v9 A w F (H : Sx.Own w0 _ [(true, g4, [v7, .int .i64 ((Tb.S.act s2 a.d a.h a.x).n)]), (true, g3, [v6, .int .i64 ((Tb.S.act s2 a.d a.h a.x).n)]), (true, g5, [.int .i64 a.d, .int .i64 a.h, .int .u64 a.x.toNat]), (true, g1, [v, .int .i64 sT.n])] [⟨true, v9, 3, 1, (Tb.S.act s2 a.d a.h a.x).l.length, (Tb.hs (Tb.S.act s2 a.d a.h a.x).l)⟩, ⟨true, v8, 3, 1, (Tb.S.act s2 a.d a.h a.x).l.length, (Tb.hs (Tb.S.act s2 a.d a.h a.x).l)⟩, ⟨true, v7, 107, 2, (Tb.S.act s2 a.d a.h a.x).l.length, (Tb.cells (Tb.S.act s2 a.d a.h a.x).l)⟩, ⟨true, v6, 107, 2, (Tb.S.act s2 a.d a.h a.x).l.length, (Tb.cells (Tb.S.act s2 a.d a.h a.x).l)⟩, ⟨true, v, 107, 2, sT.l.length, (Tb.cells sT.l)⟩, ⟨true, v5, 3, 1, sT.l.length, (Tb.hs sT.l)⟩]) => ?_)
      refine Sx.sw F (Sx.d_call (vs := [v8, v9]) (v := .bool true) if_46 F H rfl rfl (ints_c ((Tb.S.act s2 a.d a.h a.x).l.map (·.1)) _ _ _ (Tb.RdI.row (H.row 1 _ rfl rfl) (Tb.hs_iv _) (by rw [List.length_map]; have := (Tb.S.ok.act hok2 a.d a.h a.x).few; omega)) (Tb.RdI.row (H.row 0 _ rfl rfl) (Tb.hs_iv _) (by rw [List.length_map]; have := (Tb.S.ok.act hok2 a.d a.h a.x).few; omega)))) (Sx.wanted_on rfl (Sx.guard_known (d := 84) (b := false) F rfl rfl) rfl) rfl (by decide) (fun A w F H => ?_)
      refine Sx.sv F (Sx.d_un (v := .bool false) F rfl rfl rfl) (Sx.wanted_on rfl (Sx.guard_known (d := 84) (b := false) F rfl rfl) rfl) rfl (by decide) (fun A F => ?_)
      refine Sx.sv F (Sx.d_pickF (v := .bool false) F rfl rfl rfl) (Sx.wanted_none rfl _) rfl (by decide) (fun A F => ?_)
      refine Sx.sv F (Sx.d_move F (Or.inl rfl) rfl) (Sx.wanted_none rfl _) rfl (by decide) (fun A F => ?_)
      refine Sx.sv F (Sx.d_move F (Or.inl rfl) rfl) (Sx.wanted_on rfl (Sx.guard_known (d := 92) (b := false) F rfl rfl) rfl) rfl (by decide) (fun A F => ?_)
      refine Sx.sw F (Sx.d_call (vs := [.pointer (some ⟨g3, 0, none⟩)]) (v := .int .i64 ((Tb.S.act s2 a.d a.h a.x).n)) if_45 F H rfl rfl (tnext0_c (Tb.S.act s2 a.d a.h a.x) (Tb.S.ok.act hok2 a.d a.h a.x) _ _ (Tb.See.own (i := 1) (j := 3) H rfl rfl))) (Sx.wanted_on rfl (Sx.guard_known (d := 92) (b := false) F rfl rfl) rfl) rfl (by decide) (fun A w F H => ?_)
      refine Sx.sv F (Sx.d_move F (Or.inl rfl) rfl) (Sx.wanted_on rfl (Sx.guard_known (d := 92) (b := false) F rfl rfl) rfl) rfl (by decide) (fun A F => ?_)
      refine Sx.sw F (Sx.d_call (vs := [.pointer (some ⟨g4, 0, none⟩)]) (v := .int .i64 ((Tb.S.act s2 a.d a.h a.x).n)) if_45 F H rfl rfl (tnext0_c (Tb.S.act s2 a.d a.h a.x) (Tb.S.ok.act hok2 a.d a.h a.x) _ _ (Tb.See.own (i := 0) (j := 2) H rfl rfl))) (Sx.wanted_on rfl (Sx.guard_known (d := 92) (b := false) F rfl rfl) rfl) rfl (by decide) (fun A w F H => ?_)
      refine Sx.sv F (Sx.d_bin (v := .bool false) F rfl rfl rfl (Sx.i_ne (by simp))) (Sx.wanted_on rfl (Sx.guard_known (d := 92) (b := false) F rfl rfl) rfl) rfl (by decide) (fun A F => ?_)
      refine Sx.sv F (Sx.d_pickF (v := .bool false) F rfl rfl rfl) (Sx.wanted_none rfl _) rfl (by decide) (fun A F => ?_)
      refine Sx.nil ?_
      refine hK30 _ _ ?_
      refine Sx.condF F rfl ?_
      refine wp_skip ?_
      refine hK26 _ _ ?_
      refine Sx.plain ?_
      refine Sx.sv F (Sx.d_bin (v := .int .i64 (j + 1 : Nat)) F rfl rfl rfl (Sx.i_addN rfl (Sx.in_i64 _ (by omega)))) (Sx.wanted_none rfl _) rfl (by decide) (fun A F => ?_)
      refine Sx.sv F (Sx.d_move F (Or.inl rfl) rfl) (Sx.wanted_none rfl _) rfl (by decide) (fun A F => ?_)
      refine Sx.nil ?_
      try dsimp only [Exit.then]
      exact ⟨bl.length - (j + 1), by omega, j + 1, Tb.S.act s2 a.d a.h a.x, v6, v7, rfl, by omega, hok2.act _ _ _, F.to ⟨rfl, rfl, rfl, rfl, rfl, rfl, rfl, rfl, trivial⟩, H.to' [3, 1, 0] [4, 3, 2, 5] (by decide) (by decide) rfl rfl⟩
    · have hje : j = bl.length := by omega
      rw [hje] at F
      refine Sx.seq (fun K31 hK31 => ?_)
      refine Sx.plain ?_
      refine Sx.sv F (Sx.d_bin (v := .bool false) F rfl rfl rfl (Sx.i_lt (by simp))) (Sx.wanted_none rfl _) rfl (by decide) (fun A F => ?_)
      refine Sx.nil ?_
      refine hK31 _ _ ?_
      refine Sx.seq (fun K32 hK32 => ?_)
      refine Sx.condF F rfl ?_
      refine wp_exit ?_
      try dsimp only [Exit.then, Exit.jump]
      refine Sx.exit_here ?_
      refine hK22 _ _ ?_
      refine Sx.seq (fun K33 hK33 => ?_)
      refine Sx.plain ?_
      refine Sx.sv F (Sx.d_move F (Or.inl rfl) rfl) (Sx.wanted_none rfl _) rfl (by decide) (fun A F => ?_)
      refine Sx.sr (mk := fun v => v) F (Sx.d_callR (vs := [.pointer (some ⟨g1, 0, none⟩)]) (mk := fun v => v) if_47 F H rfl rfl (thandles_c sT hok _ _ (Tb.See.own (i := 0) (j := 0) H rfl rfl))) (Sx.wanted_none rfl _) rfl (by decide) (fun v10 A w F (H : Sx.Own w0 _ [(true, g1, [v, .int .i64 sT.n]), (true, g3, [vc, .int .i64 s2.n]), (true, g4, [vd, .int .i64 s2.n])] [⟨true, v10, 3, 1, sT.l.length, (Tb.hs sT.l)⟩, ⟨true, v, 107, 2, sT.l.length, (Tb.cells sT.l)⟩, ⟨true, vc, 107, 2, s2.l.length, (Tb.cells s2.l)⟩, ⟨true, vd, 107, 2, s2.l.length, (Tb.cells s2.l)⟩, ⟨true, v5, 3, 1, sT.l.length, (Tb.hs sT.l)⟩]) => ?_)
      refine Sx.sv F (Sx.d_move F (Or.inl rfl) rfl) (Sx.wanted_none rfl _) rfl (by decide) (fun A F => ?_)
      refine Sx.sw F (Sx.d_call (vs := [v10, v5]) (v := .bool true) if_46 F H rfl rfl (ints_c (sT.l.map (·.1)) _ _ _ (Tb.RdI.row (H.row 0 _ rfl rfl) (Tb.hs_iv _) (by rw [List.length_map]; have := hok.few; omega)) (Tb.RdI.row (H.row 4 _ rfl rfl) (Tb.hs_iv _) (by rw [List.length_map]; have := hok.few; omega)))) (Sx.wanted_none rfl _) rfl (by decide) (fun A w F H => ?_)
      refine Sx.sv F (Sx.d_move F (Or.inl rfl) rfl) (Sx.wanted_none rfl _) rfl (by decide) (fun A F => ?_)
      refine Sx.sv F (Sx.d_move F (Or.inl rfl) rfl) (Sx.wanted_on rfl (Sx.guard_known (d := 104) (b := true) F rfl rfl) rfl) rfl (by decide) (fun A F => ?_)
      refine Sx.sw F (Sx.d_call (vs := [.pointer (some ⟨g1, 0, none⟩)]) (v := .int .i64 sT.n) if_45 F H rfl rfl (tnext0_c sT hok _ _ (Tb.See.own (i := 0) (j := 1) H rfl rfl))) (Sx.wanted_on rfl (Sx.guard_known (d := 104) (b := true) F rfl rfl) rfl) rfl (by decide) (fun A w F H => ?_)
      refine Sx.sv F (Sx.d_move F (Or.inl rfl) rfl) (Sx.wanted_on rfl (Sx.guard_known (d := 104) (b := true) F rfl rfl) rfl) rfl (by decide) (fun A F => ?_)
      refine Sx.sv F (Sx.d_bin (v := .bool true) F rfl rfl rfl (Sx.i_eq (by simp))) (Sx.wanted_on rfl (Sx.guard_known (d := 104) (b := true) F rfl rfl) rfl) rfl (by decide) (fun A F => ?_)
      refine Sx.sv F (Sx.d_pickT (v := .bool true) F rfl rfl rfl) (Sx.wanted_none rfl _) rfl (by decide) (fun A F => ?_)
      refine Sx.sv F (Sx.d_move F (Or.inr rfl) rfl) (Sx.wanted_none rfl _) rfl (by decide) (fun A F => ?_)
      refine Sx.nil ?_
      refine hK33 _ _ ?_
      refine wp_ret ?_
      try dsimp only [Exit.then, Exit.inBlock, Exit.jump]
      refine Sx.ret1 F Try.results9 (Sx.res_tmp (v := .bool true) F rfl) ⟨?_, H.below⟩
      rfl
theorem tableCopies_walk (v u : Value) (al bl : List Tb.Act) (w : World) (ha : Tb.Acts w v al) (hb : Tb.Acts w u bl) : Calls Try.prog 9 #[v, u] w fun e w' => e = .returned (.bool true) ∧ Below w.heap.size w w' := by
  obtain ⟨ada, capa, rfl, hba, hca⟩ := ha
  obtain ⟨adb, capb, rfl, hbb, hcb⟩ := hb
  by_cases hl : 100 < al.length
  · exact tableCopies_a al bl ada adb capa capb hl w
  · by_cases hl2 : 100 < bl.length
    · exact tableCopies_b al bl ada adb capa capb (by omega) hl2 w
    · exact tableCopies_s al bl ada adb capa capb (by omega) (by omega) w hba hca hbb hcb
end Go.Proofs.Ytpbdffmgendboab
