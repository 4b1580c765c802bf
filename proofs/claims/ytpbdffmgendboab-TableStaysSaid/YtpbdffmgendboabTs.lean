/- TableStays walked. -/
import Derived.Test.YtpbdffmgendboabTw
import Derived.Test.YtpbdffmgendboabMq
namespace Go.Proofs.Ytpbdffmgendboab
open Go Go.RowKit
theorem um4 : Try.prog.underlying 80 = some (.map 3 22) := by kernel_rfl
theorem um5 : Try.prog.underlying 81 = some (.map 3 3) := by kernel_rfl
theorem uki : Try.prog.underlying 3 = some (.int .i64) := by kernel_rfl
theorem uz6 (w : World) : (zeroValue 22).run Try.prog w = .ok (.int .u64 0) w := by kernel_rfl
theorem uz3 (w : World) : (zeroValue 3).run Try.prog w = .ok (.int .i64 0) w := by kernel_rfl
set_option maxRecDepth 100000 in
theorem tableStays_long (al : List Tb.Act) (ada : Option Addr) (capa : Nat) (hl : 100 < al.length) (w0 : World) : Calls Try.prog 8 #[.slice ada al.length capa] w0 fun e w' => e = .returned (.bool true) ∧ Below w0.heap.size w0 w' := by
  refine Sx.enter (args := [.slice ada al.length capa]) Try.func8 rfl Try.ntmps8 (Nat.le_of_ble_eq_true rfl) (fun A F => ?_)
  have H := Sx.Own.start w0
  refine Sx.seq (fun K1 hK1 => ?_)
  refine Sx.plain ?_
  refine Sx.sv F (Sx.d_move F (Or.inr rfl) rfl) (Sx.wanted_none rfl _) rfl (by decide) (fun A F => ?_)
  refine Sx.nil ?_
  refine hK1 _ _ ?_
  refine Sx.seq (fun K2 hK2 => ?_)
  refine Sx.seq (fun K3 hK3 => ?_)
  refine Sx.plain ?_
  refine Sx.sw F (Sx.d_call (vs := []) (v := .bool true) if_36 F H rfl rfl (awake19_c _)) (Sx.wanted_none rfl _) rfl (by decide) (fun A w F H => ?_)
  refine Sx.sv F (Sx.d_un (v := .bool false) F rfl rfl rfl) (Sx.wanted_none rfl _) rfl (by decide) (fun A F => ?_)
  refine Sx.nil ?_
  refine hK3 _ _ ?_
  refine Sx.condF F rfl ?_
  refine wp_skip ?_
  refine hK2 _ _ ?_
  refine Sx.seq (fun K4 hK4 => ?_)
  refine Sx.seq (fun K5 hK5 => ?_)
  refine Sx.plain ?_
  refine Sx.sv F (Sx.d_move F (Or.inl rfl) rfl) (Sx.wanted_none rfl _) rfl (by decide) (fun A F => ?_)
  refine Sx.sv F (Sx.d_lenS el_58 F rfl rfl) (Sx.wanted_none rfl _) rfl (by decide) (fun A F => ?_)
  refine Sx.sv F (Sx.d_bin (v := .bool true) F rfl rfl rfl (Sx.i_gt (decide_eq_true (by omega)))) (Sx.wanted_none rfl _) rfl (by decide) (fun A F => ?_)
  refine Sx.nil ?_
  refine hK5 _ _ ?_
  refine Sx.condT F rfl ?_
  refine Sx.seq (fun K6 hK6 => ?_)
  refine Sx.plain ?_
  refine Sx.sv F (Sx.d_move F (Or.inr rfl) rfl) (Sx.wanted_none rfl _) rfl (by decide) (fun A F => ?_)
  refine Sx.nil ?_
  refine hK6 _ _ ?_
  refine wp_ret ?_
  try dsimp only [Exit.then, Exit.inBlock, Exit.jump]
  refine Sx.ret1 F Try.results8 (Sx.res_tmp (v := .bool true) F rfl) ⟨?_, H.below⟩
  rfl
set_option maxHeartbeats 4000000 in
set_option maxRecDepth 100000 in
theorem tableStays_s (al : List Tb.Act) (ada : Option Addr) (capa : Nat) (hl : al.length ≤ 100) (w0 : World) (hb : ∀ a ∈ al, -9223372036854775808 ≤ a.h ∧ a.h ≤ 9223372036854775807) (hca : ∀ k a, al[k]? = some a → ∃ g o, ada = some ⟨g, o, none⟩ ∧ w0.cell? ⟨g, o + k * 3, none⟩ = some (.int .i64 a.d) ∧ w0.cell? ⟨g, o + k * 3 + 1, none⟩ = some (.int .i64 a.h) ∧ w0.cell? ⟨g, o + k * 3 + 2, none⟩ = some (.int .u64 (a.x.toNat : Nat))) : Calls Try.prog 8 #[.slice ada al.length capa] w0 fun e w' => e = .returned (.bool true) ∧ Below w0.heap.size w0 w' := by
  refine Sx.enter (args := [.slice ada al.length capa]) Try.func8 rfl Try.ntmps8 (Nat.le_of_ble_eq_true rfl) (fun A F => ?_)
  have H := Sx.Own.start w0
  refine Sx.seq (fun K1 hK1 => ?_)
  refine Sx.plain ?_
  refine Sx.sv F (Sx.d_move F (Or.inr rfl) rfl) (Sx.wanted_none rfl _) rfl (by decide) (fun A F => ?_)
  refine Sx.nil ?_
  refine hK1 _ _ ?_
  refine Sx.seq (fun K2 hK2 => ?_)
  refine Sx.seq (fun K3 hK3 => ?_)
  refine Sx.plain ?_
  refine Sx.sw F (Sx.d_call (vs := []) (v := .bool true) if_36 F H rfl rfl (awake19_c _)) (Sx.wanted_none rfl _) rfl (by decide) (fun A w F H => ?_)
  refine Sx.sv F (Sx.d_un (v := .bool false) F rfl rfl rfl) (Sx.wanted_none rfl _) rfl (by decide) (fun A F => ?_)
  refine Sx.nil ?_
  refine hK3 _ _ ?_
  refine Sx.condF F rfl ?_
  refine wp_skip ?_
  refine hK2 _ _ ?_
  refine Sx.seq (fun K4 hK4 => ?_)
  refine Sx.seq (fun K5 hK5 => ?_)
  refine Sx.plain ?_
  refine Sx.sv F (Sx.d_move F (Or.inl rfl) rfl) (Sx.wanted_none rfl _) rfl (by decide) (fun A F => ?_)
  refine Sx.sv F (Sx.d_lenS el_58 F rfl rfl) (Sx.wanted_none rfl _) rfl (by decide) (fun A F => ?_)
  refine Sx.sv F (Sx.d_bin (v := .bool false) F rfl rfl rfl (Sx.i_gt (decide_eq_false (by omega)))) (Sx.wanted_none rfl _) rfl (by decide) (fun A F => ?_)
  refine Sx.nil ?_
  refine hK5 _ _ ?_
  refine Sx.condF F rfl ?_
  refine wp_skip ?_
  refine hK4 _ _ ?_
  refine Sx.seq (fun K6 hK6 => ?_)
  refine Sx.plain ?_
  refine Sx.sj F (Sx.d_callO (vs := []) if_37 F rfl rfl (Sx.jj H (tnew_c _))) (Sx.wanted_none rfl _) rfl (by decide) (fun g1 v1 A w F (H : Sx.Own w0 _ [(true, g1, [v1, .int .i64 Tb.S.new.n])] [⟨true, v1, 107, 2, Tb.S.new.l.length, (Tb.cells Tb.S.new.l)⟩]) => ?_)
  refine Sx.sv F (Sx.d_move F (Or.inr rfl) rfl) (Sx.wanted_none rfl _) rfl (by decide) (fun A F => ?_)
  refine Sx.nil ?_
  refine hK6 _ _ ?_
  refine Sx.seq (fun K7 hK7 => ?_)
  refine Sx.seq (fun K8 hK8 => ?_)
  refine Sx.plain ?_
  refine Sx.sv F (Sx.d_move F (Or.inl rfl) rfl) (Sx.wanted_none rfl _) rfl (by decide) (fun A F => ?_)
  refine Sx.sv F (Sx.d_bin (v := .bool false) F rfl rfl rfl Sx.pnil) (Sx.wanted_none rfl _) rfl (by decide) (fun A F => ?_)
  refine Sx.nil ?_
  refine hK8 _ _ ?_
  refine Sx.condF F rfl ?_
  refine wp_skip ?_
  refine hK7 _ _ ?_
  refine Sx.seq (fun K9 hK9 => ?_)
  refine Sx.plain ?_
  refine Sx.sg (mk := fun r => .map (some r)) F (Sx.d_makeMap F H rfl) (Sx.wanted_none rfl _) rfl (by decide) (fun r4 A w F HH => ?_)
  obtain ⟨_, H⟩ := HH
  have H : Sx.Own w0 w [(true, g1, [v1, .int .i64 Tb.S.new.n])] [⟨true, v1, 107, 2, Tb.S.new.l.length, (Tb.cells Tb.S.new.l)⟩] (Tb.upd (fun _ => none) r4 (.map #[] 0)) := H
  refine Sx.sg (mk := fun r => .map (some r)) F (Sx.d_makeMap F H rfl) (Sx.wanted_none rfl _) rfl (by decide) (fun r5 A w F HH => ?_)
  obtain ⟨hk5, H⟩ := HH
  have hne : r4 ≠ r5 := by rintro rfl; unfold Tb.upd at hk5; rw [if_pos rfl] at hk5; cases hk5
  rw [Tb.K2_new _ _ _ _ hne] at H
  clear hk5
  refine Sx.sv F (Sx.d_move F (Or.inr rfl) rfl) (Sx.wanted_none rfl _) rfl (by decide) (fun A F => ?_)
  refine Sx.sv F (Sx.d_move F (Or.inr rfl) rfl) (Sx.wanted_none rfl _) rfl (by decide) (fun A F => ?_)
  refine Sx.nil ?_
  refine hK9 _ _ ?_
  refine Sx.seq (fun K10 hK10 => ?_)
  refine Sx.seq (fun K11 hK11 => ?_)
  refine Sx.plain ?_
  refine Sx.sv F (Sx.d_move F (Or.inl rfl) rfl) (Sx.wanted_none rfl _) rfl (by decide) (fun A F => ?_)
  refine Sx.sv F (Sx.d_lenS el_58 F rfl rfl) (Sx.wanted_none rfl _) rfl (by decide) (fun A F => ?_)
  refine Sx.sv F (Sx.d_move F (Or.inl rfl) rfl) (Sx.wanted_none rfl _) rfl (by decide) (fun A F => ?_)
  refine Sx.nil ?_
  refine hK11 _ _ ?_
  refine wp_block ?_
  refine Sx.loop (fun q A w => ∃ (i : Nat) (sT : Tb.S) (gl : List Int) (v : Value) (o4 o5 : Obj), q = al.length - i ∧ i ≤ al.length ∧ sT.ok ∧ Tb.Gone sT gl ∧ Tb.MapIs o4 (Tb.hm sT.l) ∧ Tb.MapIs o5 (Tb.gm gl) ∧ Sx.Fr 172 A [(3, .pointer (some ⟨g1, 0, none⟩)), (4, .map (some r4)), (5, .map (some r5)), (31, .slice ada al.length capa), (32, .int .i64 al.length), (33, .int .i64 i)] ∧ Sx.Own w0 w [(true, g1, [v, .int .i64 sT.n])] [⟨true, v, 107, 2, sT.l.length, (Tb.cells sT.l)⟩] (Tb.K2 r4 r5 o4 o5)) al.length ⟨0, Tb.S.new, [], v1, _, _, rfl, Nat.zero_le _, Tb.S.ok.new, Tb.Gone.new, Tb.MapIs.new, Tb.MapIs.new, F.to ⟨rfl, rfl, rfl, rfl, rfl, rfl, trivial⟩, H.to' [0] [0] (by decide) (by decide) rfl rfl⟩ ?_
  rintro q A w ⟨i, sT, gl, v, o4, o5, rfl, hi, hok, hgo, hm4, hm5, F, H⟩
  by_cases hlt : i < al.length
  · obtain ⟨a, ha⟩ : ∃ a, al[i]? = some a := ⟨_, List.getElem?_eq_getElem hlt⟩
    obtain ⟨ga, oa, hada, hcell0, hcell1, hcell2⟩ := hca i a ha
    have hbh := hb a (List.mem_of_getElem? ha)
    refine Sx.seq (fun K12 hK12 => ?_)
    refine Sx.plain ?_
    refine Sx.sv F (Sx.d_bin (v := .bool true) F rfl rfl rfl (Sx.i_lt (decide_eq_true (by omega)))) (Sx.wanted_none rfl _) rfl (by decide) (fun A F => ?_)
    refine Sx.nil ?_
    refine hK12 _ _ ?_
    refine Sx.seq (fun K13 hK13 => ?_)
    refine Sx.condT F rfl ?_
    refine wp_skip ?_
    refine hK13 _ _ ?_
    refine Sx.seq (fun K14 hK14 => ?_)
    refine wp_block ?_
    refine Sx.seq (fun K15 hK15 => ?_)
    refine Sx.plain ?_
    refine Sx.sv F (Sx.d_ixZ (k := i) (g := ga) (off := oa) (z := 3) el_58 F rfl rfl hada rfl (rfl) (by omega)) (Sx.wanted_none rfl _) rfl (by decide) (fun A F => ?_)
    refine Sx.sv F (Sx.d_loadF3 rw_66 F H rfl rfl hcell0 hcell1 hcell2) (Sx.wanted_none rfl _) rfl (by decide) (fun A F => ?_)
    refine Sx.sb F (Sx.d_alloc H rfl [.int .i64 0, .int .i64 0, .int .u64 0] zero_66) (Sx.wanted_none rfl _) rfl (by decide) (fun g2 A w F H => ?_)
    refine Sx.ss F (Sx.d_store (i := 0) (xs := [.int .i64 a.d, .int .i64 a.h, .int .u64 a.x.toNat]) (us := [.int .i64 a.d, .int .i64 a.h, .int .u64 a.x.toNat]) sz_66 F H rfl rfl rfl rfl rfl rfl rfl (Nat.le_of_ble_eq_true rfl) rfl) (Sx.wanted_none rfl _) rfl (fun A w F (H : Sx.Own w0 _ [(true, g2, [.int .i64 a.d, .int .i64 a.h, .int .u64 a.x.toNat]), (true, g1, [v, .int .i64 sT.n])] [⟨true, v, 107, 2, sT.l.length, (Tb.cells sT.l)⟩] (Tb.K2 r4 r5 o4 o5)) => ?_)
    refine Sx.nil ?_
    refine hK15 _ _ ?_
    refine Sx.seq (fun K16 hK16 => ?_)
    refine Sx.plain ?_
    refine Sx.sv F (Sx.d_move F (Or.inl rfl) rfl) (Sx.wanted_none rfl _) rfl (by decide) (fun A F => ?_)
    refine Sx.sv F (Sx.d_load (i := 0) (xs := [.int .i64 a.d, .int .i64 a.h, .int .u64 a.x.toNat]) rw_66 F H rfl rfl rfl rfl rfl) (Sx.wanted_none rfl _) rfl (by decide) (fun A F => ?_)
    have H : Sx.Own w0 w [(true, g1, [v, .int .i64 sT.n]), (true, g2, [.int .i64 a.d, .int .i64 a.h, .int .u64 a.x.toNat])] [⟨true, v, 107, 2, sT.l.length, (Tb.cells sT.l)⟩] (Tb.K2 r4 r5 o4 o5) := H.to' [1, 0] [0] (by decide) (by decide) rfl rfl
    refine Sx.so (x := .tuple #[.int .i64 (Tb.S.doh sT a.d a.h), .int .i64 (Tb.S.doe sT a.d a.h)]) F (Sx.d_callO (vs := [.pointer (some ⟨g1, 0, none⟩), .agg #[.int .i64 a.d, .int .i64 a.h, .int .u64 a.x.toNat]]) if_38 F rfl rfl (Sx.oo (tdo_k sT a.d a.h (by omega) a.x hok _ _ _ _ H))) (Sx.wanted_none rfl _) rfl (by decide) (fun v2 A w F (H : Sx.Own w0 _ [(true, g1, [v2, .int .i64 ((Tb.S.act sT a.d a.h a.x).n)]), (true, g2, [.int .i64 a.d, .int .i64 a.h, .int .u64 a.x.toNat])] [⟨true, v2, 107, 2, (Tb.S.act sT a.d a.h a.x).l.length, (Tb.cells (Tb.S.act sT a.d a.h a.x).l)⟩] (Tb.K2 r4 r5 o4 o5)) => ?_)
    refine Sx.sv F (Sx.d_move F (Or.inl rfl) rfl) (Sx.wanted_none rfl _) rfl (by decide) (fun A F => ?_)
    refine Sx.sv F (Sx.d_extract (v := .int .i64 (Tb.S.doh sT a.d a.h)) F rfl rfl rfl) (Sx.wanted_none rfl _) rfl (by decide) (fun A F => ?_)
    refine Sx.sv F (Sx.d_extract (v := .int .i64 (Tb.S.doe sT a.d a.h)) F rfl rfl rfl) (Sx.wanted_none rfl _) rfl (by decide) (fun A F => ?_)
    refine Sx.sv F (Sx.d_move F (Or.inr rfl) rfl) (Sx.wanted_none rfl _) rfl (by decide) (fun A F => ?_)
    refine Sx.sv F (Sx.d_move F (Or.inr rfl) rfl) (Sx.wanted_none rfl _) rfl (by decide) (fun A F => ?_)
    refine Sx.nil ?_
    refine hK16 _ _ ?_
    refine Sx.seq (fun Kx hKx => ?_)
    have rest : ∀ (s2 : Tb.S) (gl' : List Int) (v' : Value) (o4' o5' : Obj) A w, s2.ok → Tb.Gone s2 gl' → Tb.MapIs o4' (Tb.hm s2.l) → Tb.MapIs o5' (Tb.gm gl') → Sx.Fr 172 A [(3, .pointer (some ⟨g1, 0, none⟩)), (4, .map (some r4)), (5, .map (some r5)), (31, .slice ada al.length capa), (32, .int .i64 al.length), (33, .int .i64 i)] → Sx.Own w0 w [(true, g1, [v', .int .i64 s2.n])] [⟨true, v', 107, 2, s2.l.length, (Tb.cells s2.l)⟩] (Tb.K2 r4 r5 o4' o5') → Kx A w := by
      intro s2 gl' v' o4' o5' A w hok2 hgo2 hm4' hm5' F H
      refine hKx _ _ ?_
      have hfew := hok2.few
      refine Sx.seq (fun K17 hK17 => ?_)
      refine Sx.plain ?_
      refine Sx.sv F (Sx.d_move F (Or.inl rfl) rfl) (Sx.wanted_none rfl _) rfl (by decide) (fun A F => ?_)
      refine Sx.sr (mk := fun v => v) F (Sx.d_callR (vs := [.pointer (some ⟨g1, 0, none⟩)]) (mk := fun v => v) if_47 F H rfl rfl (thandles_c s2 hok2 _ _ (Tb.See.own (i := 0) (j := 0) H rfl rfl))) (Sx.wanted_none rfl _) rfl (by decide) (fun v3 A w F (H : Sx.Own w0 _ [(true, g1, [v', .int .i64 s2.n])] [⟨true, v3, 3, 1, s2.l.length, (Tb.hs s2.l)⟩, ⟨true, v', 107, 2, s2.l.length, (Tb.cells s2.l)⟩] (Tb.K2 r4 r5 o4' o5')) => ?_)
      refine Sx.sv F (Sx.d_move F (Or.inr rfl) rfl) (Sx.wanted_none rfl _) rfl (by decide) (fun A F => ?_)
      refine Sx.nil ?_
      refine hK17 _ _ ?_
      refine Sx.seq (fun K18 hK18 => ?_)
      refine Sx.seq (fun K19 hK19 => ?_)
      refine Sx.plain ?_
      refine Sx.sv F (Sx.d_move F (Or.inl rfl) rfl) (Sx.wanted_none rfl _) rfl (by decide) (fun A F => ?_)
      refine Sx.sv F (Sx.d_len (i := 0) el_77 F H rfl rfl rfl) (Sx.wanted_none rfl _) rfl (by decide) (fun A F => ?_)
      refine Sx.sv F (Sx.d_move F (Or.inl rfl) rfl) (Sx.wanted_none rfl _) rfl (by decide) (fun A F => ?_)
      refine Sx.sv F (Sx.d_mapLen (l := (Tb.hm s2.l)) (m := s2.l.length) um4 F H rfl rfl (Tb.K2_4 _ _ _ _) hm4' (Tb.hm_len _)) (Sx.wanted_none rfl _) rfl (by decide) (fun A F => ?_)
      refine Sx.sv F (Sx.d_bin (v := .bool false) F rfl rfl rfl (Sx.i_ne (by simp))) (Sx.wanted_none rfl _) rfl (by decide) (fun A F => ?_)
      refine Sx.sv F (Sx.d_move F (Or.inl rfl) rfl) (Sx.wanted_none rfl _) rfl (by decide) (fun A F => ?_)
      refine Sx.sv F (Sx.d_move F (Or.inl rfl) rfl) (Sx.wanted_on rfl (Sx.guard_known (d := 112) (b := false) F rfl rfl) rfl) rfl (by decide) (fun A F => ?_)
      refine Sx.sv F (Sx.d_len (i := 0) el_77 F H rfl rfl rfl) (Sx.wanted_on rfl (Sx.guard_known (d := 112) (b := false) F rfl rfl) rfl) rfl (by decide) (fun A F => ?_)
      refine Sx.sv F (Sx.d_bin (v := .bool false) F rfl rfl rfl (Sx.i_gt (decide_eq_false (by omega)))) (Sx.wanted_on rfl (Sx.guard_known (d := 112) (b := false) F rfl rfl) rfl) rfl (by decide) (fun A F => ?_)
      refine Sx.sv F (Sx.d_pickF (v := .bool false) F rfl rfl rfl) (Sx.wanted_none rfl _) rfl (by decide) (fun A F => ?_)
      refine Sx.nil ?_
      refine hK19 _ _ ?_
      refine Sx.condF F rfl ?_
      refine wp_skip ?_
      refine hK18 _ _ ?_
      refine Sx.seq (fun K20 hK20 => ?_)
      refine Sx.plain ?_
      refine Sx.sv F (Sx.d_move F (Or.inl rfl) rfl) (Sx.wanted_none rfl _) rfl (by decide) (fun A F => ?_)
      refine Sx.sv F (Sx.d_len (i := 0) el_77 F H rfl rfl rfl) (Sx.wanted_none rfl _) rfl (by decide) (fun A F => ?_)
      refine Sx.sv F (Sx.d_move F (Or.inl rfl) rfl) (Sx.wanted_none rfl _) rfl (by decide) (fun A F => ?_)
      refine Sx.nil ?_
      refine hK20 _ _ ?_
      refine wp_block ?_
      refine Sx.loop (fun q A w => ∃ (j : Nat), q = s2.l.length - j ∧ j ≤ s2.l.length ∧ Sx.Fr 172 A [(3, .pointer (some ⟨g1, 0, none⟩)), (4, .map (some r4)), (5, .map (some r5)), (14, v3), (31, .slice ada al.length capa), (32, .int .i64 al.length), (33, .int .i64 i), (117, v3), (118, .int .i64 s2.l.length), (119, .int .i64 j)] ∧ Sx.Own w0 w [(true, g1, [v', .int .i64 s2.n])] [⟨true, v3, 3, 1, s2.l.length, (Tb.hs s2.l)⟩, ⟨true, v', 107, 2, s2.l.length, (Tb.cells s2.l)⟩] (Tb.K2 r4 r5 o4' o5')) s2.l.length ⟨0, rfl, Nat.zero_le _, F.to ⟨rfl, rfl, rfl, rfl, rfl, rfl, rfl, rfl, rfl, rfl, trivial⟩, H⟩ ?_
      rintro q A w ⟨j, rfl, hj, F, H⟩
      by_cases hlt2 : j < s2.l.length
      · obtain ⟨r, hr⟩ : ∃ r, s2.l[j]? = some r := ⟨_, List.getElem?_eq_getElem hlt2⟩
        have hlow := hok2.low r (Tb.mem_of hr)
        have hhas := Tb.has_of (Tb.mem_of hr)
        have Fcur := F
        have Hcur := H
        obtain ⟨lg, lc, rfl, hc1', hc2'⟩ := Hcur.open (i := 0) rfl (by omega)
        have F := Fcur
        have H := Hcur
        refine Sx.seq (fun K21 hK21 => ?_)
        refine Sx.plain ?_
        refine Sx.sv F (Sx.d_bin (v := .bool true) F rfl rfl rfl (Sx.i_lt (decide_eq_true (by omega)))) (Sx.wanted_none rfl _) rfl (by decide) (fun A F => ?_)
        refine Sx.nil ?_
        refine hK21 _ _ ?_
        refine Sx.seq (fun K22 hK22 => ?_)
        refine Sx.condT F rfl ?_
        refine wp_skip ?_
        refine hK22 _ _ ?_
        refine Sx.seq (fun K23 hK23 => ?_)
        refine wp_block ?_
        refine Sx.seq (fun K24 hK24 => ?_)
        refine Sx.plain ?_
        refine Sx.sv F (Sx.d_move F (Or.inl rfl) rfl) (Sx.wanted_none rfl _) rfl (by decide) (fun A F => ?_)
        refine Sx.sv F (Sx.d_ixR (k := j) el_77 F rfl rfl rfl (rfl) (by omega)) (Sx.wanted_none rfl _) rfl (by decide) (fun A F => ?_)
        refine Sx.sv F (Sx.d_loadR (i := 0) (v := .int .i64 r.1) one_3 F H rfl rfl rfl (Tb.hs_at hr)) (Sx.wanted_none rfl _) rfl (by decide) (fun A F => ?_)
        refine Sx.sv F (Sx.d_move F (Or.inr rfl) rfl) (Sx.wanted_none rfl _) rfl (by decide) (fun A F => ?_)
        refine Sx.sv F (Sx.d_move F (Or.inr rfl) rfl) (Sx.wanted_none rfl _) rfl (by decide) (fun A F => ?_)
        refine Sx.nil ?_
        refine hK24 _ _ ?_
        refine Sx.seq (fun K25 hK25 => ?_)
        refine Sx.plain ?_
        refine Sx.sv F (Sx.d_move F (Or.inl rfl) rfl) (Sx.wanted_none rfl _) rfl (by decide) (fun A F => ?_)
        refine Sx.sv F (Sx.d_move F (Or.inl rfl) rfl) (Sx.wanted_none rfl _) rfl (by decide) (fun A F => ?_)
        refine Sx.sw F (Sx.d_call (vs := [.pointer (some ⟨g1, 0, none⟩), .int .i64 r.1]) (v := .tuple #[.int .u64 ((Tb.S.val s2 r.1).toNat), .bool true]) if_43 F H rfl rfl (Calls.val (tget_c s2 hok2 r.1 _ _ (Tb.See.own (i := 0) (j := 1) H rfl rfl)) rfl (by rw [show Tb.S.has s2 r.1 = true from hhas]))) (Sx.wanted_none rfl _) rfl (by decide) (fun A w F H => ?_)
        refine Sx.sv F (Sx.d_move F (Or.inl rfl) rfl) (Sx.wanted_none rfl _) rfl (by decide) (fun A F => ?_)
        refine Sx.sv F (Sx.d_extract (v := .int .u64 ((Tb.S.val s2 r.1).toNat)) F rfl rfl rfl) (Sx.wanted_none rfl _) rfl (by decide) (fun A F => ?_)
        refine Sx.sv F (Sx.d_extract (v := .bool true) F rfl rfl rfl) (Sx.wanted_none rfl _) rfl (by decide) (fun A F => ?_)
        refine Sx.sv F (Sx.d_move F (Or.inr rfl) rfl) (Sx.wanted_none rfl _) rfl (by decide) (fun A F => ?_)
        refine Sx.sv F (Sx.d_move F (Or.inr rfl) rfl) (Sx.wanted_none rfl _) rfl (by decide) (fun A F => ?_)
        refine Sx.nil ?_
        refine hK25 _ _ ?_
        refine Sx.seq (fun K26 hK26 => ?_)
        refine Sx.plain ?_
        refine Sx.sv F (Sx.d_move F (Or.inl rfl) rfl) (Sx.wanted_none rfl _) rfl (by decide) (fun A F => ?_)
        refine Sx.sv F (Sx.d_move F (Or.inl rfl) rfl) (Sx.wanted_none rfl _) rfl (by decide) (fun A F => ?_)
        refine Sx.sv F (Sx.d_lookup (b := true) (v := .int .u64 ((Tb.S.val s2 r.1).toNat)) um4 uki uz6 F H rfl rfl rfl (Tb.K2_4 _ _ _ _) hm4' (Tb.hm_lk_yes (s := s2) _ (hhas))) (Sx.wanted_none rfl _) rfl (by decide) (fun A F => ?_)
        refine Sx.sv F (Sx.d_move F (Or.inl rfl) rfl) (Sx.wanted_none rfl _) rfl (by decide) (fun A F => ?_)
        refine Sx.sv F (Sx.d_extract (v := .int .u64 ((Tb.S.val s2 r.1).toNat)) F rfl rfl rfl) (Sx.wanted_none rfl _) rfl (by decide) (fun A F => ?_)
        refine Sx.sv F (Sx.d_extract (v := .bool true) F rfl rfl rfl) (Sx.wanted_none rfl _) rfl (by decide) (fun A F => ?_)
        refine Sx.sv F (Sx.d_move F (Or.inr rfl) rfl) (Sx.wanted_none rfl _) rfl (by decide) (fun A F => ?_)
        refine Sx.sv F (Sx.d_move F (Or.inr rfl) rfl) (Sx.wanted_none rfl _) rfl (by decide) (fun A F => ?_)
        refine Sx.nil ?_
        refine hK26 _ _ ?_
        by_cases h0 : j = 0
        · skip
          refine Sx.seq (fun K27 hK27 => ?_)
          refine Sx.plain ?_
          refine Sx.sv F (Sx.d_move F (Or.inl rfl) rfl) (Sx.wanted_none rfl _) rfl (by decide) (fun A F => ?_)
          refine Sx.sv F (Sx.d_un (v := .bool false) F rfl rfl rfl) (Sx.wanted_none rfl _) rfl (by decide) (fun A F => ?_)
          refine Sx.sv F (Sx.d_move F (Or.inl rfl) rfl) (Sx.wanted_none rfl _) rfl (by decide) (fun A F => ?_)
          refine Sx.sv F (Sx.d_move F (Or.inl rfl) rfl) (Sx.wanted_on rfl (Sx.guard_known (d := 138) (b := false) F rfl rfl) rfl) rfl (by decide) (fun A F => ?_)
          refine Sx.sv F (Sx.d_un (v := .bool false) F rfl rfl rfl) (Sx.wanted_on rfl (Sx.guard_known (d := 138) (b := false) F rfl rfl) rfl) rfl (by decide) (fun A F => ?_)
          refine Sx.sv F (Sx.d_pickF (v := .bool false) F rfl rfl rfl) (Sx.wanted_none rfl _) rfl (by decide) (fun A F => ?_)
          refine Sx.sv F (Sx.d_move F (Or.inl rfl) rfl) (Sx.wanted_none rfl _) rfl (by decide) (fun A F => ?_)
          refine Sx.sv F (Sx.d_move F (Or.inl rfl) rfl) (Sx.wanted_on rfl (Sx.guard_known (d := 142) (b := false) F rfl rfl) rfl) rfl (by decide) (fun A F => ?_)
          refine Sx.sv F (Sx.d_move F (Or.inl rfl) rfl) (Sx.wanted_on rfl (Sx.guard_known (d := 142) (b := false) F rfl rfl) rfl) rfl (by decide) (fun A F => ?_)
          refine Sx.sv F (Sx.d_bin (v := .bool false) F rfl rfl rfl (Sx.i_ne (by simp))) (Sx.wanted_on rfl (Sx.guard_known (d := 142) (b := false) F rfl rfl) rfl) rfl (by decide) (fun A F => ?_)
          refine Sx.sv F (Sx.d_pickF (v := .bool false) F rfl rfl rfl) (Sx.wanted_none rfl _) rfl (by decide) (fun A F => ?_)
          refine Sx.sv F (Sx.d_move F (Or.inl rfl) rfl) (Sx.wanted_none rfl _) rfl (by decide) (fun A F => ?_)
          refine Sx.sv F (Sx.d_move F (Or.inl rfl) rfl) (Sx.wanted_on rfl (Sx.guard_known (d := 147) (b := false) F rfl rfl) rfl) rfl (by decide) (fun A F => ?_)
          refine Sx.sv F (Sx.d_bin (v := .bool false) F rfl rfl rfl (Sx.i_lt (decide_eq_false (by omega)))) (Sx.wanted_on rfl (Sx.guard_known (d := 147) (b := false) F rfl rfl) rfl) rfl (by decide) (fun A F => ?_)
          refine Sx.sv F (Sx.d_pickF (v := .bool false) F rfl rfl rfl) (Sx.wanted_none rfl _) rfl (by decide) (fun A F => ?_)
          refine Sx.sv F (Sx.d_move F (Or.inl rfl) rfl) (Sx.wanted_none rfl _) rfl (by decide) (fun A F => ?_)
          refine Sx.sv F (Sx.d_move F (Or.inl rfl) rfl) (Sx.wanted_on rfl (Sx.guard_known (d := 151) (b := false) F rfl rfl) rfl) rfl (by decide) (fun A F => ?_)
          refine Sx.sv F (Sx.d_move F (Or.inl rfl) rfl) (Sx.wanted_on rfl (Sx.guard_known (d := 151) (b := false) F rfl rfl) rfl) rfl (by decide) (fun A F => ?_)
          refine Sx.sw F (Sx.d_call (vs := [.pointer (some ⟨g1, 0, none⟩)]) (v := .int .i64 s2.n) if_45 F H rfl rfl (tnext0_c s2 hok2 _ _ (Tb.See.own (i := 0) (j := 1) H rfl rfl))) (Sx.wanted_on rfl (Sx.guard_known (d := 151) (b := false) F rfl rfl) rfl) rfl (by decide) (fun A w F H => ?_)
          refine Sx.sv F (Sx.d_bin (v := .bool false) F rfl rfl rfl (Sx.i_ge (decide_eq_false (by omega)))) (Sx.wanted_on rfl (Sx.guard_known (d := 151) (b := false) F rfl rfl) rfl) rfl (by decide) (fun A F => ?_)
          refine Sx.sv F (Sx.d_pickF (v := .bool false) F rfl rfl rfl) (Sx.wanted_none rfl _) rfl (by decide) (fun A F => ?_)
          refine Sx.sv F (Sx.d_move F (Or.inl rfl) rfl) (Sx.wanted_none rfl _) rfl (by decide) (fun A F => ?_)
          refine Sx.sv F (Sx.d_move F (Or.inl rfl) rfl) (Sx.wanted_on rfl (Sx.guard_known (d := 157) (b := false) F rfl rfl) rfl) rfl (by decide) (fun A F => ?_)
          refine Sx.sv F (Sx.d_bin (v := .bool false) F rfl rfl rfl (Sx.i_gt (decide_eq_false (by omega)))) (Sx.wanted_on rfl (Sx.guard_known (d := 157) (b := false) F rfl rfl) rfl) rfl (by decide) (fun A F => ?_)
          refine Sx.sv F (Sx.d_move F (Or.inl rfl) rfl) (Sx.wanted_on rfl (Sx.guard_known (d := 157) (b := false) F rfl rfl) rfl) rfl (by decide) (fun A F => ?_)
          refine Sx.su F (Sx.wanted_off rfl (Sx.guard_known (d := 160) (b := false) F rfl rfl) rfl) rfl (by decide) (fun A F => ?_)
          refine Sx.su F (Sx.wanted_off rfl (Sx.guard_known (d := 160) (b := false) F rfl rfl) rfl) rfl (by decide) (fun A F => ?_)
          refine Sx.su F (Sx.wanted_off rfl (Sx.guard_known (d := 160) (b := false) F rfl rfl) rfl) rfl (by decide) (fun A F => ?_)
          refine Sx.su F (Sx.wanted_off rfl (Sx.guard_known (d := 160) (b := false) F rfl rfl) rfl) rfl (by decide) (fun A F => ?_)
          refine Sx.su F (Sx.wanted_off rfl (Sx.guard_known (d := 160) (b := false) F rfl rfl) rfl) rfl (by decide) (fun A F => ?_)
          refine Sx.su F (Sx.wanted_off rfl (Sx.guard_known (d := 160) (b := false) F rfl rfl) rfl) rfl (by decide) (fun A F => ?_)
          refine Sx.su F (Sx.wanted_off rfl (Sx.guard_known (d := 160) (b := false) F rfl rfl) rfl) rfl (by decide) (fun A F => ?_)
          refine Sx.sv F (Sx.d_pickF (v := .bool false) F rfl rfl rfl) (Sx.wanted_on rfl (Sx.guard_known (d := 157) (b := false) F rfl rfl) rfl) rfl (by decide) (fun A F => ?_)
          refine Sx.sv F (Sx.d_pickF (v := .bool false) F rfl rfl rfl) (Sx.wanted_none rfl _) rfl (by decide) (fun A F => ?_)
          refine Sx.nil ?_
          refine hK27 _ _ ?_
          refine Sx.condF F rfl ?_
          refine wp_skip ?_
          refine hK23 _ _ ?_
          refine Sx.plain ?_
          refine Sx.sv F (Sx.d_bin (v := .int .i64 (j + 1 : Nat)) F rfl rfl rfl (Sx.i_addN rfl (Sx.in_i64 _ (by omega)))) (Sx.wanted_none rfl _) rfl (by decide) (fun A F => ?_)
          refine Sx.sv F (Sx.d_move F (Or.inl rfl) rfl) (Sx.wanted_none rfl _) rfl (by decide) (fun A F => ?_)
          refine Sx.nil ?_
          try dsimp only [Exit.then]
          exact ⟨s2.l.length - (j + 1), by omega, j + 1, rfl, by omega, F.to ⟨rfl, rfl, rfl, rfl, rfl, rfl, rfl, rfl, rfl, rfl, trivial⟩, H⟩
        · obtain ⟨r', hr'⟩ : ∃ r', s2.l[j - 1]? = some r' := ⟨_, List.getElem?_eq_getElem (by omega)⟩
          have hlt3 := Tb.rise_at hok2.rise hr' hr (by omega)
          refine Sx.seq (fun K28 hK28 => ?_)
          refine Sx.plain ?_
          refine Sx.sv F (Sx.d_move F (Or.inl rfl) rfl) (Sx.wanted_none rfl _) rfl (by decide) (fun A F => ?_)
          refine Sx.sv F (Sx.d_un (v := .bool false) F rfl rfl rfl) (Sx.wanted_none rfl _) rfl (by decide) (fun A F => ?_)
          refine Sx.sv F (Sx.d_move F (Or.inl rfl) rfl) (Sx.wanted_none rfl _) rfl (by decide) (fun A F => ?_)
          refine Sx.sv F (Sx.d_move F (Or.inl rfl) rfl) (Sx.wanted_on rfl (Sx.guard_known (d := 138) (b := false) F rfl rfl) rfl) rfl (by decide) (fun A F => ?_)
          refine Sx.sv F (Sx.d_un (v := .bool false) F rfl rfl rfl) (Sx.wanted_on rfl (Sx.guard_known (d := 138) (b := false) F rfl rfl) rfl) rfl (by decide) (fun A F => ?_)
          refine Sx.sv F (Sx.d_pickF (v := .bool false) F rfl rfl rfl) (Sx.wanted_none rfl _) rfl (by decide) (fun A F => ?_)
          refine Sx.sv F (Sx.d_move F (Or.inl rfl) rfl) (Sx.wanted_none rfl _) rfl (by decide) (fun A F => ?_)
          refine Sx.sv F (Sx.d_move F (Or.inl rfl) rfl) (Sx.wanted_on rfl (Sx.guard_known (d := 142) (b := false) F rfl rfl) rfl) rfl (by decide) (fun A F => ?_)
          refine Sx.sv F (Sx.d_move F (Or.inl rfl) rfl) (Sx.wanted_on rfl (Sx.guard_known (d := 142) (b := false) F rfl rfl) rfl) rfl (by decide) (fun A F => ?_)
          refine Sx.sv F (Sx.d_bin (v := .bool false) F rfl rfl rfl (Sx.i_ne (by simp))) (Sx.wanted_on rfl (Sx.guard_known (d := 142) (b := false) F rfl rfl) rfl) rfl (by decide) (fun A F => ?_)
          refine Sx.sv F (Sx.d_pickF (v := .bool false) F rfl rfl rfl) (Sx.wanted_none rfl _) rfl (by decide) (fun A F => ?_)
          refine Sx.sv F (Sx.d_move F (Or.inl rfl) rfl) (Sx.wanted_none rfl _) rfl (by decide) (fun A F => ?_)
          refine Sx.sv F (Sx.d_move F (Or.inl rfl) rfl) (Sx.wanted_on rfl (Sx.guard_known (d := 147) (b := false) F rfl rfl) rfl) rfl (by decide) (fun A F => ?_)
          refine Sx.sv F (Sx.d_bin (v := .bool false) F rfl rfl rfl (Sx.i_lt (decide_eq_false (by omega)))) (Sx.wanted_on rfl (Sx.guard_known (d := 147) (b := false) F rfl rfl) rfl) rfl (by decide) (fun A F => ?_)
          refine Sx.sv F (Sx.d_pickF (v := .bool false) F rfl rfl rfl) (Sx.wanted_none rfl _) rfl (by decide) (fun A F => ?_)
          refine Sx.sv F (Sx.d_move F (Or.inl rfl) rfl) (Sx.wanted_none rfl _) rfl (by decide) (fun A F => ?_)
          refine Sx.sv F (Sx.d_move F (Or.inl rfl) rfl) (Sx.wanted_on rfl (Sx.guard_known (d := 151) (b := false) F rfl rfl) rfl) rfl (by decide) (fun A F => ?_)
          refine Sx.sv F (Sx.d_move F (Or.inl rfl) rfl) (Sx.wanted_on rfl (Sx.guard_known (d := 151) (b := false) F rfl rfl) rfl) rfl (by decide) (fun A F => ?_)
          refine Sx.sw F (Sx.d_call (vs := [.pointer (some ⟨g1, 0, none⟩)]) (v := .int .i64 s2.n) if_45 F H rfl rfl (tnext0_c s2 hok2 _ _ (Tb.See.own (i := 0) (j := 1) H rfl rfl))) (Sx.wanted_on rfl (Sx.guard_known (d := 151) (b := false) F rfl rfl) rfl) rfl (by decide) (fun A w F H => ?_)
          refine Sx.sv F (Sx.d_bin (v := .bool false) F rfl rfl rfl (Sx.i_ge (decide_eq_false (by omega)))) (Sx.wanted_on rfl (Sx.guard_known (d := 151) (b := false) F rfl rfl) rfl) rfl (by decide) (fun A F => ?_)
          refine Sx.sv F (Sx.d_pickF (v := .bool false) F rfl rfl rfl) (Sx.wanted_none rfl _) rfl (by decide) (fun A F => ?_)
          refine Sx.sv F (Sx.d_move F (Or.inl rfl) rfl) (Sx.wanted_none rfl _) rfl (by decide) (fun A F => ?_)
          refine Sx.sv F (Sx.d_move F (Or.inl rfl) rfl) (Sx.wanted_on rfl (Sx.guard_known (d := 157) (b := false) F rfl rfl) rfl) rfl (by decide) (fun A F => ?_)
          refine Sx.sv F (Sx.d_bin (v := .bool true) F rfl rfl rfl (Sx.i_gt (decide_eq_true (by omega)))) (Sx.wanted_on rfl (Sx.guard_known (d := 157) (b := false) F rfl rfl) rfl) rfl (by decide) (fun A F => ?_)
          refine Sx.sv F (Sx.d_move F (Or.inl rfl) rfl) (Sx.wanted_on rfl (Sx.guard_known (d := 157) (b := false) F rfl rfl) rfl) rfl (by decide) (fun A F => ?_)
          refine Sx.sv F (Sx.d_move F (Or.inl rfl) rfl) (Sx.wanted_on rfl (Sx.guard_known (d := 160) (b := true) F rfl rfl) rfl) rfl (by decide) (fun A F => ?_)
          refine Sx.sv F (Sx.d_move F (Or.inl rfl) rfl) (Sx.wanted_on rfl (Sx.guard_known (d := 160) (b := true) F rfl rfl) rfl) rfl (by decide) (fun A F => ?_)
          refine Sx.sv F (Sx.d_move F (Or.inl rfl) rfl) (Sx.wanted_on rfl (Sx.guard_known (d := 160) (b := true) F rfl rfl) rfl) rfl (by decide) (fun A F => ?_)
          refine Sx.sv F (Sx.d_bin (v := .int .i64 ((j : Int) - 1)) F rfl rfl rfl (Sx.i_subS (Sx.in64 _ (by omega)))) (Sx.wanted_on rfl (Sx.guard_known (d := 160) (b := true) F rfl rfl) rfl) rfl (by decide) (fun A F => ?_)
          refine Sx.sv F (Sx.d_ixR (k := (j - 1)) el_77 F rfl rfl rfl (by omega) (by omega)) (Sx.wanted_on rfl (Sx.guard_known (d := 160) (b := true) F rfl rfl) rfl) rfl (by decide) (fun A F => ?_)
          refine Sx.sv F (Sx.d_loadR (i := 0) (v := .int .i64 r'.1) one_3 F H rfl rfl rfl (Tb.hs_at hr')) (Sx.wanted_on rfl (Sx.guard_known (d := 160) (b := true) F rfl rfl) rfl) rfl (by decide) (fun A F => ?_)
          refine Sx.sv F (Sx.d_bin (v := .bool false) F rfl rfl rfl (Sx.i_le (decide_eq_false (by omega)))) (Sx.wanted_on rfl (Sx.guard_known (d := 160) (b := true) F rfl rfl) rfl) rfl (by decide) (fun A F => ?_)
          refine Sx.sv F (Sx.d_pickT (v := .bool false) F rfl rfl rfl) (Sx.wanted_on rfl (Sx.guard_known (d := 157) (b := false) F rfl rfl) rfl) rfl (by decide) (fun A F => ?_)
          refine Sx.sv F (Sx.d_pickF (v := .bool false) F rfl rfl rfl) (Sx.wanted_none rfl _) rfl (by decide) (fun A F => ?_)
          refine Sx.nil ?_
          refine hK28 _ _ ?_
          refine Sx.condF F rfl ?_
          refine wp_skip ?_
          refine hK23 _ _ ?_
          refine Sx.plain ?_
          refine Sx.sv F (Sx.d_bin (v := .int .i64 (j + 1 : Nat)) F rfl rfl rfl (Sx.i_addN rfl (Sx.in_i64 _ (by omega)))) (Sx.wanted_none rfl _) rfl (by decide) (fun A F => ?_)
          refine Sx.sv F (Sx.d_move F (Or.inl rfl) rfl) (Sx.wanted_none rfl _) rfl (by decide) (fun A F => ?_)
          refine Sx.nil ?_
          try dsimp only [Exit.then]
          exact ⟨s2.l.length - (j + 1), by omega, j + 1, rfl, by omega, F.to ⟨rfl, rfl, rfl, rfl, rfl, rfl, rfl, rfl, rfl, rfl, trivial⟩, H⟩
      · have hje : j = s2.l.length := by omega
        rw [hje] at F
        refine Sx.seq (fun K29 hK29 => ?_)
        refine Sx.plain ?_
        refine Sx.sv F (Sx.d_bin (v := .bool false) F rfl rfl rfl (Sx.i_lt (by simp))) (Sx.wanted_none rfl _) rfl (by decide) (fun A F => ?_)
        refine Sx.nil ?_
        refine hK29 _ _ ?_
        refine Sx.seq (fun K30 hK30 => ?_)
        refine Sx.condF F rfl ?_
        refine wp_exit ?_
        try dsimp only [Exit.then, Exit.jump]
        refine Sx.exit_here ?_
        refine hK14 _ _ ?_
        refine Sx.plain ?_
        refine Sx.sv F (Sx.d_bin (v := .int .i64 (i + 1 : Nat)) F rfl rfl rfl (Sx.i_addN rfl (Sx.in_i64 _ (by omega)))) (Sx.wanted_none rfl _) rfl (by decide) (fun A F => ?_)
        refine Sx.sv F (Sx.d_move F (Or.inl rfl) rfl) (Sx.wanted_none rfl _) rfl (by decide) (fun A F => ?_)
        refine Sx.nil ?_
        try dsimp only [Exit.then]
        exact ⟨al.length - (i + 1), by omega, i + 1, s2, gl', v', o4', o5', rfl, by omega, hok2, hgo2, hm4', hm5', F.to ⟨rfl, rfl, rfl, rfl, rfl, rfl, trivial⟩, H.to' [0] [1] (by decide) (by decide) rfl rfl⟩
    clear hKx
    by_cases hd0 : a.d = 0
    · rcases Tb.add_cases hok a.x with ⟨_, e1, e2, e3⟩ | ⟨_, _, e1, e2, e3⟩ | ⟨_, _, e1, e2, e3⟩
      · skip
        have q1 : Tb.S.doh sT a.d a.h = 0 := (Tb.doh0 hd0).trans e2
        have q2 : Tb.S.doe sT a.d a.h = 5 := (Tb.doe0 hd0).trans e1
        have q3 : Tb.S.act sT a.d a.h a.x = sT := (Tb.act0 hd0).trans e3
        rw [q1, q2] at F
        rw [q3] at H
        refine wp_block ?_
        refine Sx.seq (fun K31 hK31 => ?_)
        refine Sx.plain ?_
        refine Sx.sv F (Sx.d_faddr (v := .pointer (some ⟨g2, 0, none⟩)) F rfl rfl (fa_66_0 _ 0 _)) (Sx.wanted_none rfl _) rfl (by decide) (fun A F => ?_)
        refine Sx.sv F (Sx.d_load1 (i := 1) (v := .int .i64 a.d) one_3 F H rfl rfl rfl rfl) (Sx.wanted_none rfl _) rfl (by decide) (fun A F => ?_)
        refine Sx.sv F (Sx.d_bin (v := .bool true) F rfl rfl rfl (Sx.i_eq (beq_iff_eq.2 hd0))) (Sx.wanted_none rfl _) rfl (by decide) (fun A F => ?_)
        refine Sx.sv F (Sx.d_move F (Or.inl rfl) rfl) (Sx.wanted_none rfl _) rfl (by decide) (fun A F => ?_)
        refine Sx.sv F (Sx.d_move F (Or.inl rfl) rfl) (Sx.wanted_on rfl (Sx.guard_known (d := 47) (b := true) F rfl rfl) rfl) rfl (by decide) (fun A F => ?_)
        refine Sx.sv F (Sx.d_bin (v := .bool false) F rfl rfl rfl (Sx.i_eq (by decide))) (Sx.wanted_on rfl (Sx.guard_known (d := 47) (b := true) F rfl rfl) rfl) rfl (by decide) (fun A F => ?_)
        refine Sx.sv F (Sx.d_pickT (v := .bool false) F rfl rfl rfl) (Sx.wanted_none rfl _) rfl (by decide) (fun A F => ?_)
        refine Sx.sv F (Sx.d_move F (Or.inl rfl) rfl) (Sx.wanted_none rfl _) rfl (by decide) (fun A F => ?_)
        refine Sx.sv F (Sx.d_faddr (v := .pointer (some ⟨g2, 0, none⟩)) F rfl rfl (fa_66_0 _ 0 _)) (Sx.wanted_on rfl (Sx.guard_known (d := 51) (b := false) F rfl rfl) rfl) rfl (by decide) (fun A F => ?_)
        refine Sx.sv F (Sx.d_load1 (i := 1) (v := .int .i64 a.d) one_3 F H rfl rfl rfl rfl) (Sx.wanted_on rfl (Sx.guard_known (d := 51) (b := false) F rfl rfl) rfl) rfl (by decide) (fun A F => ?_)
        refine Sx.sv F (Sx.d_bin (v := .bool false) F rfl rfl rfl (Sx.i_eq (beq_false_of_ne (by omega)))) (Sx.wanted_on rfl (Sx.guard_known (d := 51) (b := false) F rfl rfl) rfl) rfl (by decide) (fun A F => ?_)
        refine Sx.sv F (Sx.d_move F (Or.inl rfl) rfl) (Sx.wanted_on rfl (Sx.guard_known (d := 51) (b := false) F rfl rfl) rfl) rfl (by decide) (fun A F => ?_)
        refine Sx.su F (Sx.wanted_off rfl (Sx.guard_known (d := 55) (b := false) F rfl rfl) rfl) rfl (by decide) (fun A F => ?_)
        refine Sx.su F (Sx.wanted_off rfl (Sx.guard_known (d := 55) (b := false) F rfl rfl) rfl) rfl (by decide) (fun A F => ?_)
        refine Sx.sv F (Sx.d_pickF (v := .bool false) F rfl rfl rfl) (Sx.wanted_on rfl (Sx.guard_known (d := 51) (b := false) F rfl rfl) rfl) rfl (by decide) (fun A F => ?_)
        refine Sx.sv F (Sx.d_pickF (v := .bool false) F rfl rfl rfl) (Sx.wanted_none rfl _) rfl (by decide) (fun A F => ?_)
        refine Sx.sv F (Sx.d_move F (Or.inr rfl) rfl) (Sx.wanted_none rfl _) rfl (by decide) (fun A F => ?_)
        refine Sx.nil ?_
        refine hK31 _ _ ?_
        refine Sx.condF F rfl ?_
        refine Sx.seq (fun K32 hK32 => ?_)
        refine Sx.plain ?_
        refine Sx.sv F (Sx.d_faddr (v := .pointer (some ⟨g2, 0, none⟩)) F rfl rfl (fa_66_0 _ 0 _)) (Sx.wanted_none rfl _) rfl (by decide) (fun A F => ?_)
        refine Sx.sv F (Sx.d_load1 (i := 1) (v := .int .i64 a.d) one_3 F H rfl rfl rfl rfl) (Sx.wanted_none rfl _) rfl (by decide) (fun A F => ?_)
        refine Sx.sv F (Sx.d_bin (v := .bool false) F rfl rfl rfl (Sx.i_eq (beq_false_of_ne (by omega)))) (Sx.wanted_none rfl _) rfl (by decide) (fun A F => ?_)
        refine Sx.sv F (Sx.d_move F (Or.inl rfl) rfl) (Sx.wanted_none rfl _) rfl (by decide) (fun A F => ?_)
        refine Sx.su F (Sx.wanted_off rfl (Sx.guard_known (d := 86) (b := false) F rfl rfl) rfl) rfl (by decide) (fun A F => ?_)
        refine Sx.su F (Sx.wanted_off rfl (Sx.guard_known (d := 86) (b := false) F rfl rfl) rfl) rfl (by decide) (fun A F => ?_)
        refine Sx.sv F (Sx.d_pickF (v := .bool false) F rfl rfl rfl) (Sx.wanted_none rfl _) rfl (by decide) (fun A F => ?_)
        refine Sx.sv F (Sx.d_move F (Or.inr rfl) rfl) (Sx.wanted_none rfl _) rfl (by decide) (fun A F => ?_)
        refine Sx.nil ?_
        refine hK32 _ _ ?_
        refine Sx.condF F rfl ?_
        refine wp_skip ?_
        exact rest (sT) gl (v2) _ _ _ _ hok hgo hm4 hm5 (F.to ⟨rfl, rfl, rfl, rfl, rfl, rfl, trivial⟩) (H.to' [0] [0] (by decide) (by decide) rfl rfl)
      · skip
        have q1 : Tb.S.doh sT a.d a.h = 0 := (Tb.doh0 hd0).trans e2
        have q2 : Tb.S.doe sT a.d a.h = 10 := (Tb.doe0 hd0).trans e1
        have q3 : Tb.S.act sT a.d a.h a.x = sT := (Tb.act0 hd0).trans e3
        rw [q1, q2] at F
        rw [q3] at H
        refine wp_block ?_
        refine Sx.seq (fun K33 hK33 => ?_)
        refine Sx.plain ?_
        refine Sx.sv F (Sx.d_faddr (v := .pointer (some ⟨g2, 0, none⟩)) F rfl rfl (fa_66_0 _ 0 _)) (Sx.wanted_none rfl _) rfl (by decide) (fun A F => ?_)
        refine Sx.sv F (Sx.d_load1 (i := 1) (v := .int .i64 a.d) one_3 F H rfl rfl rfl rfl) (Sx.wanted_none rfl _) rfl (by decide) (fun A F => ?_)
        refine Sx.sv F (Sx.d_bin (v := .bool true) F rfl rfl rfl (Sx.i_eq (beq_iff_eq.2 hd0))) (Sx.wanted_none rfl _) rfl (by decide) (fun A F => ?_)
        refine Sx.sv F (Sx.d_move F (Or.inl rfl) rfl) (Sx.wanted_none rfl _) rfl (by decide) (fun A F => ?_)
        refine Sx.sv F (Sx.d_move F (Or.inl rfl) rfl) (Sx.wanted_on rfl (Sx.guard_known (d := 47) (b := true) F rfl rfl) rfl) rfl (by decide) (fun A F => ?_)
        refine Sx.sv F (Sx.d_bin (v := .bool false) F rfl rfl rfl (Sx.i_eq (by decide))) (Sx.wanted_on rfl (Sx.guard_known (d := 47) (b := true) F rfl rfl) rfl) rfl (by decide) (fun A F => ?_)
        refine Sx.sv F (Sx.d_pickT (v := .bool false) F rfl rfl rfl) (Sx.wanted_none rfl _) rfl (by decide) (fun A F => ?_)
        refine Sx.sv F (Sx.d_move F (Or.inl rfl) rfl) (Sx.wanted_none rfl _) rfl (by decide) (fun A F => ?_)
        refine Sx.sv F (Sx.d_faddr (v := .pointer (some ⟨g2, 0, none⟩)) F rfl rfl (fa_66_0 _ 0 _)) (Sx.wanted_on rfl (Sx.guard_known (d := 51) (b := false) F rfl rfl) rfl) rfl (by decide) (fun A F => ?_)
        refine Sx.sv F (Sx.d_load1 (i := 1) (v := .int .i64 a.d) one_3 F H rfl rfl rfl rfl) (Sx.wanted_on rfl (Sx.guard_known (d := 51) (b := false) F rfl rfl) rfl) rfl (by decide) (fun A F => ?_)
        refine Sx.sv F (Sx.d_bin (v := .bool false) F rfl rfl rfl (Sx.i_eq (beq_false_of_ne (by omega)))) (Sx.wanted_on rfl (Sx.guard_known (d := 51) (b := false) F rfl rfl) rfl) rfl (by decide) (fun A F => ?_)
        refine Sx.sv F (Sx.d_move F (Or.inl rfl) rfl) (Sx.wanted_on rfl (Sx.guard_known (d := 51) (b := false) F rfl rfl) rfl) rfl (by decide) (fun A F => ?_)
        refine Sx.su F (Sx.wanted_off rfl (Sx.guard_known (d := 55) (b := false) F rfl rfl) rfl) rfl (by decide) (fun A F => ?_)
        refine Sx.su F (Sx.wanted_off rfl (Sx.guard_known (d := 55) (b := false) F rfl rfl) rfl) rfl (by decide) (fun A F => ?_)
        refine Sx.sv F (Sx.d_pickF (v := .bool false) F rfl rfl rfl) (Sx.wanted_on rfl (Sx.guard_known (d := 51) (b := false) F rfl rfl) rfl) rfl (by decide) (fun A F => ?_)
        refine Sx.sv F (Sx.d_pickF (v := .bool false) F rfl rfl rfl) (Sx.wanted_none rfl _) rfl (by decide) (fun A F => ?_)
        refine Sx.sv F (Sx.d_move F (Or.inr rfl) rfl) (Sx.wanted_none rfl _) rfl (by decide) (fun A F => ?_)
        refine Sx.nil ?_
        refine hK33 _ _ ?_
        refine Sx.condF F rfl ?_
        refine Sx.seq (fun K34 hK34 => ?_)
        refine Sx.plain ?_
        refine Sx.sv F (Sx.d_faddr (v := .pointer (some ⟨g2, 0, none⟩)) F rfl rfl (fa_66_0 _ 0 _)) (Sx.wanted_none rfl _) rfl (by decide) (fun A F => ?_)
        refine Sx.sv F (Sx.d_load1 (i := 1) (v := .int .i64 a.d) one_3 F H rfl rfl rfl rfl) (Sx.wanted_none rfl _) rfl (by decide) (fun A F => ?_)
        refine Sx.sv F (Sx.d_bin (v := .bool false) F rfl rfl rfl (Sx.i_eq (beq_false_of_ne (by omega)))) (Sx.wanted_none rfl _) rfl (by decide) (fun A F => ?_)
        refine Sx.sv F (Sx.d_move F (Or.inl rfl) rfl) (Sx.wanted_none rfl _) rfl (by decide) (fun A F => ?_)
        refine Sx.su F (Sx.wanted_off rfl (Sx.guard_known (d := 86) (b := false) F rfl rfl) rfl) rfl (by decide) (fun A F => ?_)
        refine Sx.su F (Sx.wanted_off rfl (Sx.guard_known (d := 86) (b := false) F rfl rfl) rfl) rfl (by decide) (fun A F => ?_)
        refine Sx.sv F (Sx.d_pickF (v := .bool false) F rfl rfl rfl) (Sx.wanted_none rfl _) rfl (by decide) (fun A F => ?_)
        refine Sx.sv F (Sx.d_move F (Or.inr rfl) rfl) (Sx.wanted_none rfl _) rfl (by decide) (fun A F => ?_)
        refine Sx.nil ?_
        refine hK34 _ _ ?_
        refine Sx.condF F rfl ?_
        refine wp_skip ?_
        exact rest (sT) gl (v2) _ _ _ _ hok hgo hm4 hm5 (F.to ⟨rfl, rfl, rfl, rfl, rfl, rfl, trivial⟩) (H.to' [0] [0] (by decide) (by decide) rfl rfl)
      · skip
        have q1 : Tb.S.doh sT a.d a.h = sT.n := (Tb.doh0 hd0).trans e2
        have q2 : Tb.S.doe sT a.d a.h = 0 := (Tb.doe0 hd0).trans e1
        have q3 : Tb.S.act sT a.d a.h a.x = Tb.S.lay sT sT.n a.x := (Tb.act0 hd0)
        rw [q1, q2] at F
        rw [q3] at H
        refine wp_block ?_
        refine Sx.seq (fun K35 hK35 => ?_)
        refine Sx.plain ?_
        refine Sx.sv F (Sx.d_faddr (v := .pointer (some ⟨g2, 0, none⟩)) F rfl rfl (fa_66_0 _ 0 _)) (Sx.wanted_none rfl _) rfl (by decide) (fun A F => ?_)
        refine Sx.sv F (Sx.d_load1 (i := 1) (v := .int .i64 a.d) one_3 F H rfl rfl rfl rfl) (Sx.wanted_none rfl _) rfl (by decide) (fun A F => ?_)
        refine Sx.sv F (Sx.d_bin (v := .bool true) F rfl rfl rfl (Sx.i_eq (beq_iff_eq.2 hd0))) (Sx.wanted_none rfl _) rfl (by decide) (fun A F => ?_)
        refine Sx.sv F (Sx.d_move F (Or.inl rfl) rfl) (Sx.wanted_none rfl _) rfl (by decide) (fun A F => ?_)
        refine Sx.sv F (Sx.d_move F (Or.inl rfl) rfl) (Sx.wanted_on rfl (Sx.guard_known (d := 47) (b := true) F rfl rfl) rfl) rfl (by decide) (fun A F => ?_)
        refine Sx.sv F (Sx.d_bin (v := .bool true) F rfl rfl rfl (Sx.i_eq (by decide))) (Sx.wanted_on rfl (Sx.guard_known (d := 47) (b := true) F rfl rfl) rfl) rfl (by decide) (fun A F => ?_)
        refine Sx.sv F (Sx.d_pickT (v := .bool true) F rfl rfl rfl) (Sx.wanted_none rfl _) rfl (by decide) (fun A F => ?_)
        refine Sx.sv F (Sx.d_move F (Or.inl rfl) rfl) (Sx.wanted_none rfl _) rfl (by decide) (fun A F => ?_)
        refine Sx.su F (Sx.wanted_off rfl (Sx.guard_known (d := 51) (b := true) F rfl rfl) rfl) rfl (by decide) (fun A F => ?_)
        refine Sx.su F (Sx.wanted_off rfl (Sx.guard_known (d := 51) (b := true) F rfl rfl) rfl) rfl (by decide) (fun A F => ?_)
        refine Sx.su F (Sx.wanted_off rfl (Sx.guard_known (d := 51) (b := true) F rfl rfl) rfl) rfl (by decide) (fun A F => ?_)
        refine Sx.su F (Sx.wanted_off rfl (Sx.guard_known (d := 51) (b := true) F rfl rfl) rfl) rfl (by decide) (fun A F => ?_)
        refine Sx.su F (Sx.wanted_undef rfl (Sx.guard_undef (d := 55) F rfl rfl)) rfl (by decide) (fun A F => ?_)
        refine Sx.su F (Sx.wanted_undef rfl (Sx.guard_undef (d := 55) F rfl rfl)) rfl (by decide) (fun A F => ?_)
        refine Sx.su F (Sx.wanted_off rfl (Sx.guard_known (d := 51) (b := true) F rfl rfl) rfl) rfl (by decide) (fun A F => ?_)
        refine Sx.sv F (Sx.d_pickT (v := .bool true) F rfl rfl rfl) (Sx.wanted_none rfl _) rfl (by decide) (fun A F => ?_)
        refine Sx.sv F (Sx.d_move F (Or.inr rfl) rfl) (Sx.wanted_none rfl _) rfl (by decide) (fun A F => ?_)
        refine Sx.nil ?_
        refine hK35 _ _ ?_
        refine Sx.condT F rfl ?_
        refine Sx.seq (fun K36 hK36 => ?_)
        refine Sx.seq (fun K37 hK37 => ?_)
        refine Sx.plain ?_
        refine Sx.sv F (Sx.d_faddr (v := .pointer (some ⟨g2, 0, none⟩)) F rfl rfl (fa_66_0 _ 0 _)) (Sx.wanted_none rfl _) rfl (by decide) (fun A F => ?_)
        refine Sx.sv F (Sx.d_load1 (i := 1) (v := .int .i64 a.d) one_3 F H rfl rfl rfl rfl) (Sx.wanted_none rfl _) rfl (by decide) (fun A F => ?_)
        refine Sx.sv F (Sx.d_bin (v := .bool false) F rfl rfl rfl (Sx.i_eq (beq_false_of_ne (by omega)))) (Sx.wanted_none rfl _) rfl (by decide) (fun A F => ?_)
        refine Sx.nil ?_
        refine hK37 _ _ ?_
        refine Sx.condF F rfl ?_
        refine wp_skip ?_
        refine hK36 _ _ ?_
        refine Sx.seq (fun K38 hK38 => ?_)
        refine Sx.seq (fun K39 hK39 => ?_)
        refine Sx.plain ?_
        refine Sx.sv F (Sx.d_move F (Or.inl rfl) rfl) (Sx.wanted_none rfl _) rfl (by decide) (fun A F => ?_)
        refine Sx.sv F (Sx.d_move F (Or.inl rfl) rfl) (Sx.wanted_none rfl _) rfl (by decide) (fun A F => ?_)
        refine Sx.sv F (Sx.d_lookup (b := false) (v := .int .u64 0) um4 uki uz6 F H rfl rfl rfl (Tb.K2_4 _ _ _ _) hm4 (Tb.hm_lk_no (s := sT) _ (Tb.has_big hok (Int.le_refl _)))) (Sx.wanted_none rfl _) rfl (by decide) (fun A F => ?_)
        refine Sx.sv F (Sx.d_move F (Or.inl rfl) rfl) (Sx.wanted_none rfl _) rfl (by decide) (fun A F => ?_)
        refine Sx.sv F (Sx.d_extract (v := .int .u64 0) F rfl rfl rfl) (Sx.wanted_none rfl _) rfl (by decide) (fun A F => ?_)
        refine Sx.sv F (Sx.d_extract (v := .bool false) F rfl rfl rfl) (Sx.wanted_none rfl _) rfl (by decide) (fun A F => ?_)
        refine Sx.sv F (Sx.d_move F (Or.inr rfl) rfl) (Sx.wanted_none rfl _) rfl (by decide) (fun A F => ?_)
        refine Sx.sv F (Sx.d_move F (Or.inr rfl) rfl) (Sx.wanted_none rfl _) rfl (by decide) (fun A F => ?_)
        refine Sx.nil ?_
        refine hK39 _ _ ?_
        refine Sx.seq (fun K40 hK40 => ?_)
        refine Sx.plain ?_
        refine Sx.sv F (Sx.d_move F (Or.inl rfl) rfl) (Sx.wanted_none rfl _) rfl (by decide) (fun A F => ?_)
        refine Sx.sv F (Sx.d_move F (Or.inl rfl) rfl) (Sx.wanted_none rfl _) rfl (by decide) (fun A F => ?_)
        refine Sx.sv F (Sx.d_move F (Or.inl rfl) rfl) (Sx.wanted_on rfl (Sx.guard_known (d := 72) (b := false) F rfl rfl) rfl) rfl (by decide) (fun A F => ?_)
        refine Sx.sv F (Sx.d_move F (Or.inl rfl) rfl) (Sx.wanted_on rfl (Sx.guard_known (d := 72) (b := false) F rfl rfl) rfl) rfl (by decide) (fun A F => ?_)
        refine Sx.sv F (Sx.d_lookup1 (b := false) (v := .int .i64 0) um5 uki uz3 F H rfl rfl rfl (Tb.K2_5 hne _ _) hm5 (Tb.gm_lk_no _ (hgo.not_mem (Int.le_refl _)))) (Sx.wanted_on rfl (Sx.guard_known (d := 72) (b := false) F rfl rfl) rfl) rfl (by decide) (fun A F => ?_)
        refine Sx.sv F (Sx.d_bin (v := .bool false) F rfl rfl rfl (Sx.i_gt (by decide))) (Sx.wanted_on rfl (Sx.guard_known (d := 72) (b := false) F rfl rfl) rfl) rfl (by decide) (fun A F => ?_)
        refine Sx.sv F (Sx.d_pickF (v := .bool false) F rfl rfl rfl) (Sx.wanted_none rfl _) rfl (by decide) (fun A F => ?_)
        refine Sx.nil ?_
        refine hK40 _ _ ?_
        refine Sx.condF F rfl ?_
        refine wp_skip ?_
        refine hK38 _ _ ?_
        refine Sx.plain ?_
        refine Sx.sv F (Sx.d_move F (Or.inl rfl) rfl) (Sx.wanted_none rfl _) rfl (by decide) (fun A F => ?_)
        refine Sx.sv F (Sx.d_move F (Or.inl rfl) rfl) (Sx.wanted_none rfl _) rfl (by decide) (fun A F => ?_)
        refine Sx.sv F (Sx.d_faddr (v := .pointer (some ⟨g2, 2, none⟩)) F rfl rfl (fa_66_2 _ 0 _)) (Sx.wanted_none rfl _) rfl (by decide) (fun A F => ?_)
        refine Sx.sv F (Sx.d_load1 (i := 1) (v := .int .u64 a.x.toNat) one_22 F H rfl rfl rfl rfl) (Sx.wanted_none rfl _) rfl (by decide) (fun A F => ?_)
        refine Sx.ss F (Sx.d_mapSet (l := (Tb.hm sT.l)) um4 uki F H rfl rfl rfl rfl (Tb.K2_4 _ _ _ _) hm4 (Tb.hm_none (s := sT) (Tb.has_big hok (Int.le_refl _)))) (Sx.wanted_none rfl _) rfl (fun A w F HH => ?_)
        obtain ⟨o4', hm4', H⟩ := HH
        rw [Tb.K2_set4] at H
        rw [Tb.hm_lay a.x e3] at hm4'
        refine Sx.nil ?_
        exact rest (Tb.S.lay sT sT.n a.x) gl (v2) _ _ _ _ (hok.lay _ _) (hgo.lay _ e3) hm4' hm5 (F.to ⟨rfl, rfl, rfl, rfl, rfl, rfl, trivial⟩) (H.to' [0] [0] (by decide) (by decide) rfl rfl)
    by_cases hd1 : a.d = 1
    · cases hs : Tb.S.has sT a.h
      · skip
        have q1 : Tb.S.doh sT a.d a.h = 0 := Tb.doh1 hd1 hs
        have q2 : Tb.S.doe sT a.d a.h = 0 := Tb.doe1 hd1
        have q3 : Tb.S.act sT a.d a.h a.x = sT := (Tb.act1 hd1).trans (Tb.drop_none hs)
        rw [q1, q2] at F
        rw [q3] at H
        refine wp_block ?_
        refine Sx.seq (fun K41 hK41 => ?_)
        refine Sx.plain ?_
        refine Sx.sv F (Sx.d_faddr (v := .pointer (some ⟨g2, 0, none⟩)) F rfl rfl (fa_66_0 _ 0 _)) (Sx.wanted_none rfl _) rfl (by decide) (fun A F => ?_)
        refine Sx.sv F (Sx.d_load1 (i := 1) (v := .int .i64 a.d) one_3 F H rfl rfl rfl rfl) (Sx.wanted_none rfl _) rfl (by decide) (fun A F => ?_)
        refine Sx.sv F (Sx.d_bin (v := .bool false) F rfl rfl rfl (Sx.i_eq (beq_false_of_ne (by omega)))) (Sx.wanted_none rfl _) rfl (by decide) (fun A F => ?_)
        refine Sx.sv F (Sx.d_move F (Or.inl rfl) rfl) (Sx.wanted_none rfl _) rfl (by decide) (fun A F => ?_)
        refine Sx.su F (Sx.wanted_off rfl (Sx.guard_known (d := 47) (b := false) F rfl rfl) rfl) rfl (by decide) (fun A F => ?_)
        refine Sx.su F (Sx.wanted_off rfl (Sx.guard_known (d := 47) (b := false) F rfl rfl) rfl) rfl (by decide) (fun A F => ?_)
        refine Sx.sv F (Sx.d_pickF (v := .bool false) F rfl rfl rfl) (Sx.wanted_none rfl _) rfl (by decide) (fun A F => ?_)
        refine Sx.sv F (Sx.d_move F (Or.inl rfl) rfl) (Sx.wanted_none rfl _) rfl (by decide) (fun A F => ?_)
        refine Sx.sv F (Sx.d_faddr (v := .pointer (some ⟨g2, 0, none⟩)) F rfl rfl (fa_66_0 _ 0 _)) (Sx.wanted_on rfl (Sx.guard_known (d := 51) (b := false) F rfl rfl) rfl) rfl (by decide) (fun A F => ?_)
        refine Sx.sv F (Sx.d_load1 (i := 1) (v := .int .i64 a.d) one_3 F H rfl rfl rfl rfl) (Sx.wanted_on rfl (Sx.guard_known (d := 51) (b := false) F rfl rfl) rfl) rfl (by decide) (fun A F => ?_)
        refine Sx.sv F (Sx.d_bin (v := .bool false) F rfl rfl rfl (Sx.i_eq (beq_false_of_ne (by omega)))) (Sx.wanted_on rfl (Sx.guard_known (d := 51) (b := false) F rfl rfl) rfl) rfl (by decide) (fun A F => ?_)
        refine Sx.sv F (Sx.d_move F (Or.inl rfl) rfl) (Sx.wanted_on rfl (Sx.guard_known (d := 51) (b := false) F rfl rfl) rfl) rfl (by decide) (fun A F => ?_)
        refine Sx.su F (Sx.wanted_off rfl (Sx.guard_known (d := 55) (b := false) F rfl rfl) rfl) rfl (by decide) (fun A F => ?_)
        refine Sx.su F (Sx.wanted_off rfl (Sx.guard_known (d := 55) (b := false) F rfl rfl) rfl) rfl (by decide) (fun A F => ?_)
        refine Sx.sv F (Sx.d_pickF (v := .bool false) F rfl rfl rfl) (Sx.wanted_on rfl (Sx.guard_known (d := 51) (b := false) F rfl rfl) rfl) rfl (by decide) (fun A F => ?_)
        refine Sx.sv F (Sx.d_pickF (v := .bool false) F rfl rfl rfl) (Sx.wanted_none rfl _) rfl (by decide) (fun A F => ?_)
        refine Sx.sv F (Sx.d_move F (Or.inr rfl) rfl) (Sx.wanted_none rfl _) rfl (by decide) (fun A F => ?_)
        refine Sx.nil ?_
        refine hK41 _ _ ?_
        refine Sx.condF F rfl ?_
        refine Sx.seq (fun K42 hK42 => ?_)
        refine Sx.plain ?_
        refine Sx.sv F (Sx.d_faddr (v := .pointer (some ⟨g2, 0, none⟩)) F rfl rfl (fa_66_0 _ 0 _)) (Sx.wanted_none rfl _) rfl (by decide) (fun A F => ?_)
        refine Sx.sv F (Sx.d_load1 (i := 1) (v := .int .i64 a.d) one_3 F H rfl rfl rfl rfl) (Sx.wanted_none rfl _) rfl (by decide) (fun A F => ?_)
        refine Sx.sv F (Sx.d_bin (v := .bool true) F rfl rfl rfl (Sx.i_eq (beq_iff_eq.2 hd1))) (Sx.wanted_none rfl _) rfl (by decide) (fun A F => ?_)
        refine Sx.sv F (Sx.d_move F (Or.inl rfl) rfl) (Sx.wanted_none rfl _) rfl (by decide) (fun A F => ?_)
        refine Sx.sv F (Sx.d_move F (Or.inl rfl) rfl) (Sx.wanted_on rfl (Sx.guard_known (d := 86) (b := true) F rfl rfl) rfl) rfl (by decide) (fun A F => ?_)
        refine Sx.sv F (Sx.d_bin (v := .bool false) F rfl rfl rfl (Sx.i_eq (by decide))) (Sx.wanted_on rfl (Sx.guard_known (d := 86) (b := true) F rfl rfl) rfl) rfl (by decide) (fun A F => ?_)
        refine Sx.sv F (Sx.d_pickT (v := .bool false) F rfl rfl rfl) (Sx.wanted_none rfl _) rfl (by decide) (fun A F => ?_)
        refine Sx.sv F (Sx.d_move F (Or.inr rfl) rfl) (Sx.wanted_none rfl _) rfl (by decide) (fun A F => ?_)
        refine Sx.nil ?_
        refine hK42 _ _ ?_
        refine Sx.condF F rfl ?_
        refine wp_skip ?_
        exact rest (sT) gl (v2) _ _ _ _ hok hgo hm4 hm5 (F.to ⟨rfl, rfl, rfl, rfl, rfl, rfl, trivial⟩) (H.to' [0] [0] (by decide) (by decide) rfl rfl)
      · skip
        have q1 : Tb.S.doh sT a.d a.h = 1 := Tb.doh1 hd1 hs
        have q2 : Tb.S.doe sT a.d a.h = 0 := Tb.doe1 hd1
        have q3 : Tb.S.act sT a.d a.h a.x = Tb.S.drop sT a.h := Tb.act1 hd1
        rw [q1, q2] at F
        rw [q3] at H
        refine wp_block ?_
        refine Sx.seq (fun K43 hK43 => ?_)
        refine Sx.plain ?_
        refine Sx.sv F (Sx.d_faddr (v := .pointer (some ⟨g2, 0, none⟩)) F rfl rfl (fa_66_0 _ 0 _)) (Sx.wanted_none rfl _) rfl (by decide) (fun A F => ?_)
        refine Sx.sv F (Sx.d_load1 (i := 1) (v := .int .i64 a.d) one_3 F H rfl rfl rfl rfl) (Sx.wanted_none rfl _) rfl (by decide) (fun A F => ?_)
        refine Sx.sv F (Sx.d_bin (v := .bool false) F rfl rfl rfl (Sx.i_eq (beq_false_of_ne (by omega)))) (Sx.wanted_none rfl _) rfl (by decide) (fun A F => ?_)
        refine Sx.sv F (Sx.d_move F (Or.inl rfl) rfl) (Sx.wanted_none rfl _) rfl (by decide) (fun A F => ?_)
        refine Sx.su F (Sx.wanted_off rfl (Sx.guard_known (d := 47) (b := false) F rfl rfl) rfl) rfl (by decide) (fun A F => ?_)
        refine Sx.su F (Sx.wanted_off rfl (Sx.guard_known (d := 47) (b := false) F rfl rfl) rfl) rfl (by decide) (fun A F => ?_)
        refine Sx.sv F (Sx.d_pickF (v := .bool false) F rfl rfl rfl) (Sx.wanted_none rfl _) rfl (by decide) (fun A F => ?_)
        refine Sx.sv F (Sx.d_move F (Or.inl rfl) rfl) (Sx.wanted_none rfl _) rfl (by decide) (fun A F => ?_)
        refine Sx.sv F (Sx.d_faddr (v := .pointer (some ⟨g2, 0, none⟩)) F rfl rfl (fa_66_0 _ 0 _)) (Sx.wanted_on rfl (Sx.guard_known (d := 51) (b := false) F rfl rfl) rfl) rfl (by decide) (fun A F => ?_)
        refine Sx.sv F (Sx.d_load1 (i := 1) (v := .int .i64 a.d) one_3 F H rfl rfl rfl rfl) (Sx.wanted_on rfl (Sx.guard_known (d := 51) (b := false) F rfl rfl) rfl) rfl (by decide) (fun A F => ?_)
        refine Sx.sv F (Sx.d_bin (v := .bool false) F rfl rfl rfl (Sx.i_eq (beq_false_of_ne (by omega)))) (Sx.wanted_on rfl (Sx.guard_known (d := 51) (b := false) F rfl rfl) rfl) rfl (by decide) (fun A F => ?_)
        refine Sx.sv F (Sx.d_move F (Or.inl rfl) rfl) (Sx.wanted_on rfl (Sx.guard_known (d := 51) (b := false) F rfl rfl) rfl) rfl (by decide) (fun A F => ?_)
        refine Sx.su F (Sx.wanted_off rfl (Sx.guard_known (d := 55) (b := false) F rfl rfl) rfl) rfl (by decide) (fun A F => ?_)
        refine Sx.su F (Sx.wanted_off rfl (Sx.guard_known (d := 55) (b := false) F rfl rfl) rfl) rfl (by decide) (fun A F => ?_)
        refine Sx.sv F (Sx.d_pickF (v := .bool false) F rfl rfl rfl) (Sx.wanted_on rfl (Sx.guard_known (d := 51) (b := false) F rfl rfl) rfl) rfl (by decide) (fun A F => ?_)
        refine Sx.sv F (Sx.d_pickF (v := .bool false) F rfl rfl rfl) (Sx.wanted_none rfl _) rfl (by decide) (fun A F => ?_)
        refine Sx.sv F (Sx.d_move F (Or.inr rfl) rfl) (Sx.wanted_none rfl _) rfl (by decide) (fun A F => ?_)
        refine Sx.nil ?_
        refine hK43 _ _ ?_
        refine Sx.condF F rfl ?_
        refine Sx.seq (fun K44 hK44 => ?_)
        refine Sx.plain ?_
        refine Sx.sv F (Sx.d_faddr (v := .pointer (some ⟨g2, 0, none⟩)) F rfl rfl (fa_66_0 _ 0 _)) (Sx.wanted_none rfl _) rfl (by decide) (fun A F => ?_)
        refine Sx.sv F (Sx.d_load1 (i := 1) (v := .int .i64 a.d) one_3 F H rfl rfl rfl rfl) (Sx.wanted_none rfl _) rfl (by decide) (fun A F => ?_)
        refine Sx.sv F (Sx.d_bin (v := .bool true) F rfl rfl rfl (Sx.i_eq (beq_iff_eq.2 hd1))) (Sx.wanted_none rfl _) rfl (by decide) (fun A F => ?_)
        refine Sx.sv F (Sx.d_move F (Or.inl rfl) rfl) (Sx.wanted_none rfl _) rfl (by decide) (fun A F => ?_)
        refine Sx.sv F (Sx.d_move F (Or.inl rfl) rfl) (Sx.wanted_on rfl (Sx.guard_known (d := 86) (b := true) F rfl rfl) rfl) rfl (by decide) (fun A F => ?_)
        refine Sx.sv F (Sx.d_bin (v := .bool true) F rfl rfl rfl (Sx.i_eq (by decide))) (Sx.wanted_on rfl (Sx.guard_known (d := 86) (b := true) F rfl rfl) rfl) rfl (by decide) (fun A F => ?_)
        refine Sx.sv F (Sx.d_pickT (v := .bool true) F rfl rfl rfl) (Sx.wanted_none rfl _) rfl (by decide) (fun A F => ?_)
        refine Sx.sv F (Sx.d_move F (Or.inr rfl) rfl) (Sx.wanted_none rfl _) rfl (by decide) (fun A F => ?_)
        refine Sx.nil ?_
        refine hK44 _ _ ?_
        refine Sx.condT F rfl ?_
        refine Sx.seq (fun K45 hK45 => ?_)
        refine Sx.seq (fun K46 hK46 => ?_)
        refine Sx.plain ?_
        refine Sx.sv F (Sx.d_move F (Or.inl rfl) rfl) (Sx.wanted_none rfl _) rfl (by decide) (fun A F => ?_)
        refine Sx.sv F (Sx.d_faddr (v := .pointer (some ⟨g2, 1, none⟩)) F rfl rfl (fa_66_1 _ 0 _)) (Sx.wanted_none rfl _) rfl (by decide) (fun A F => ?_)
        refine Sx.sv F (Sx.d_load1 (i := 1) (v := .int .i64 a.h) one_3 F H rfl rfl rfl rfl) (Sx.wanted_none rfl _) rfl (by decide) (fun A F => ?_)
        refine Sx.sv F (Sx.d_lookup (b := true) (v := .int .u64 ((Tb.S.val sT a.h).toNat)) um4 uki uz6 F H rfl rfl rfl (Tb.K2_4 _ _ _ _) hm4 (Tb.hm_lk_yes (s := sT) _ (hs))) (Sx.wanted_none rfl _) rfl (by decide) (fun A F => ?_)
        refine Sx.sv F (Sx.d_move F (Or.inl rfl) rfl) (Sx.wanted_none rfl _) rfl (by decide) (fun A F => ?_)
        refine Sx.sv F (Sx.d_extract (v := .int .u64 ((Tb.S.val sT a.h).toNat)) F rfl rfl rfl) (Sx.wanted_none rfl _) rfl (by decide) (fun A F => ?_)
        refine Sx.sv F (Sx.d_extract (v := .bool true) F rfl rfl rfl) (Sx.wanted_none rfl _) rfl (by decide) (fun A F => ?_)
        refine Sx.sv F (Sx.d_move F (Or.inr rfl) rfl) (Sx.wanted_none rfl _) rfl (by decide) (fun A F => ?_)
        refine Sx.sv F (Sx.d_move F (Or.inr rfl) rfl) (Sx.wanted_none rfl _) rfl (by decide) (fun A F => ?_)
        refine Sx.nil ?_
        refine hK46 _ _ ?_
        refine Sx.seq (fun K47 hK47 => ?_)
        refine Sx.plain ?_
        refine Sx.sv F (Sx.d_move F (Or.inl rfl) rfl) (Sx.wanted_none rfl _) rfl (by decide) (fun A F => ?_)
        refine Sx.sv F (Sx.d_un (v := .bool false) F rfl rfl rfl) (Sx.wanted_none rfl _) rfl (by decide) (fun A F => ?_)
        refine Sx.nil ?_
        refine hK47 _ _ ?_
        refine Sx.condF F rfl ?_
        refine wp_skip ?_
        refine hK45 _ _ ?_
        refine Sx.seq (fun K48 hK48 => ?_)
        refine Sx.plain ?_
        refine Sx.sv F (Sx.d_move F (Or.inl rfl) rfl) (Sx.wanted_none rfl _) rfl (by decide) (fun A F => ?_)
        refine Sx.sv F (Sx.d_faddr (v := .pointer (some ⟨g2, 1, none⟩)) F rfl rfl (fa_66_1 _ 0 _)) (Sx.wanted_none rfl _) rfl (by decide) (fun A F => ?_)
        refine Sx.sv F (Sx.d_load1 (i := 1) (v := .int .i64 a.h) one_3 F H rfl rfl rfl rfl) (Sx.wanted_none rfl _) rfl (by decide) (fun A F => ?_)
        refine Sx.ss F (Sx.d_mapDel (l := (Tb.hm sT.l)) um4 uki F H rfl rfl rfl (Tb.K2_4 _ _ _ _) hm4) (Sx.wanted_none rfl _) rfl (fun A w F HH => ?_)
        obtain ⟨o4', hm4', H⟩ := HH
        rw [Tb.K2_set4] at H
        rw [Tb.hm_drop hok] at hm4'
        refine Sx.nil ?_
        refine hK48 _ _ ?_
        refine Sx.plain ?_
        refine Sx.sv F (Sx.d_move F (Or.inl rfl) rfl) (Sx.wanted_none rfl _) rfl (by decide) (fun A F => ?_)
        refine Sx.sv F (Sx.d_faddr (v := .pointer (some ⟨g2, 1, none⟩)) F rfl rfl (fa_66_1 _ 0 _)) (Sx.wanted_none rfl _) rfl (by decide) (fun A F => ?_)
        refine Sx.sv F (Sx.d_load1 (i := 1) (v := .int .i64 a.h) one_3 F H rfl rfl rfl rfl) (Sx.wanted_none rfl _) rfl (by decide) (fun A F => ?_)
        refine Sx.ss F (Sx.d_mapSet (l := (Tb.gm gl)) um5 uki F H rfl rfl rfl rfl (Tb.K2_5 hne _ _) hm5 (Tb.gm_none (hgo.not_has hs))) (Sx.wanted_none rfl _) rfl (fun A w F HH => ?_)
        obtain ⟨o5', hm5', H⟩ := HH
        rw [Tb.K2_set5 hne] at H
        rw [Tb.gm_snoc] at hm5'
        refine Sx.nil ?_
        exact rest (Tb.S.drop sT a.h) (gl ++ [a.h]) (v2) _ _ _ _ (hok.drop _) (hgo.drop hok hs) hm4' hm5' (F.to ⟨rfl, rfl, rfl, rfl, rfl, rfl, trivial⟩) (H.to' [0] [0] (by decide) (by decide) rfl rfl)
    by_cases hd2 : a.d = 2
    · by_cases c1 : sT.l.length = 16
      · obtain ⟨e1, e2⟩ := Tb.lay_full (h := a.h) a.x c1
        have q1 : Tb.S.doh sT a.d a.h = 0 := Tb.doh2 hd2
        have q2 : Tb.S.doe sT a.d a.h = 5 := (Tb.doe2 hd2).trans e1
        have q3 : Tb.S.act sT a.d a.h a.x = sT := (Tb.act2 hd2).trans e2
        rw [q1, q2] at F
        rw [q3] at H
        refine wp_block ?_
        refine Sx.seq (fun K49 hK49 => ?_)
        refine Sx.plain ?_
        refine Sx.sv F (Sx.d_faddr (v := .pointer (some ⟨g2, 0, none⟩)) F rfl rfl (fa_66_0 _ 0 _)) (Sx.wanted_none rfl _) rfl (by decide) (fun A F => ?_)
        refine Sx.sv F (Sx.d_load1 (i := 1) (v := .int .i64 a.d) one_3 F H rfl rfl rfl rfl) (Sx.wanted_none rfl _) rfl (by decide) (fun A F => ?_)
        refine Sx.sv F (Sx.d_bin (v := .bool false) F rfl rfl rfl (Sx.i_eq (beq_false_of_ne (by omega)))) (Sx.wanted_none rfl _) rfl (by decide) (fun A F => ?_)
        refine Sx.sv F (Sx.d_move F (Or.inl rfl) rfl) (Sx.wanted_none rfl _) rfl (by decide) (fun A F => ?_)
        refine Sx.su F (Sx.wanted_off rfl (Sx.guard_known (d := 47) (b := false) F rfl rfl) rfl) rfl (by decide) (fun A F => ?_)
        refine Sx.su F (Sx.wanted_off rfl (Sx.guard_known (d := 47) (b := false) F rfl rfl) rfl) rfl (by decide) (fun A F => ?_)
        refine Sx.sv F (Sx.d_pickF (v := .bool false) F rfl rfl rfl) (Sx.wanted_none rfl _) rfl (by decide) (fun A F => ?_)
        refine Sx.sv F (Sx.d_move F (Or.inl rfl) rfl) (Sx.wanted_none rfl _) rfl (by decide) (fun A F => ?_)
        refine Sx.sv F (Sx.d_faddr (v := .pointer (some ⟨g2, 0, none⟩)) F rfl rfl (fa_66_0 _ 0 _)) (Sx.wanted_on rfl (Sx.guard_known (d := 51) (b := false) F rfl rfl) rfl) rfl (by decide) (fun A F => ?_)
        refine Sx.sv F (Sx.d_load1 (i := 1) (v := .int .i64 a.d) one_3 F H rfl rfl rfl rfl) (Sx.wanted_on rfl (Sx.guard_known (d := 51) (b := false) F rfl rfl) rfl) rfl (by decide) (fun A F => ?_)
        refine Sx.sv F (Sx.d_bin (v := .bool true) F rfl rfl rfl (Sx.i_eq (beq_iff_eq.2 hd2))) (Sx.wanted_on rfl (Sx.guard_known (d := 51) (b := false) F rfl rfl) rfl) rfl (by decide) (fun A F => ?_)
        refine Sx.sv F (Sx.d_move F (Or.inl rfl) rfl) (Sx.wanted_on rfl (Sx.guard_known (d := 51) (b := false) F rfl rfl) rfl) rfl (by decide) (fun A F => ?_)
        refine Sx.sv F (Sx.d_move F (Or.inl rfl) rfl) (Sx.wanted_on rfl (Sx.guard_known (d := 55) (b := true) F rfl rfl) rfl) rfl (by decide) (fun A F => ?_)
        refine Sx.sv F (Sx.d_bin (v := .bool false) F rfl rfl rfl (Sx.i_eq (by decide))) (Sx.wanted_on rfl (Sx.guard_known (d := 55) (b := true) F rfl rfl) rfl) rfl (by decide) (fun A F => ?_)
        refine Sx.sv F (Sx.d_pickT (v := .bool false) F rfl rfl rfl) (Sx.wanted_on rfl (Sx.guard_known (d := 51) (b := false) F rfl rfl) rfl) rfl (by decide) (fun A F => ?_)
        refine Sx.sv F (Sx.d_pickF (v := .bool false) F rfl rfl rfl) (Sx.wanted_none rfl _) rfl (by decide) (fun A F => ?_)
        refine Sx.sv F (Sx.d_move F (Or.inr rfl) rfl) (Sx.wanted_none rfl _) rfl (by decide) (fun A F => ?_)
        refine Sx.nil ?_
        refine hK49 _ _ ?_
        refine Sx.condF F rfl ?_
        refine Sx.seq (fun K50 hK50 => ?_)
        refine Sx.plain ?_
        refine Sx.sv F (Sx.d_faddr (v := .pointer (some ⟨g2, 0, none⟩)) F rfl rfl (fa_66_0 _ 0 _)) (Sx.wanted_none rfl _) rfl (by decide) (fun A F => ?_)
        refine Sx.sv F (Sx.d_load1 (i := 1) (v := .int .i64 a.d) one_3 F H rfl rfl rfl rfl) (Sx.wanted_none rfl _) rfl (by decide) (fun A F => ?_)
        refine Sx.sv F (Sx.d_bin (v := .bool false) F rfl rfl rfl (Sx.i_eq (beq_false_of_ne (by omega)))) (Sx.wanted_none rfl _) rfl (by decide) (fun A F => ?_)
        refine Sx.sv F (Sx.d_move F (Or.inl rfl) rfl) (Sx.wanted_none rfl _) rfl (by decide) (fun A F => ?_)
        refine Sx.su F (Sx.wanted_off rfl (Sx.guard_known (d := 86) (b := false) F rfl rfl) rfl) rfl (by decide) (fun A F => ?_)
        refine Sx.su F (Sx.wanted_off rfl (Sx.guard_known (d := 86) (b := false) F rfl rfl) rfl) rfl (by decide) (fun A F => ?_)
        refine Sx.sv F (Sx.d_pickF (v := .bool false) F rfl rfl rfl) (Sx.wanted_none rfl _) rfl (by decide) (fun A F => ?_)
        refine Sx.sv F (Sx.d_move F (Or.inr rfl) rfl) (Sx.wanted_none rfl _) rfl (by decide) (fun A F => ?_)
        refine Sx.nil ?_
        refine hK50 _ _ ?_
        refine Sx.condF F rfl ?_
        refine wp_skip ?_
        exact rest (sT) gl (v2) _ _ _ _ hok hgo hm4 hm5 (F.to ⟨rfl, rfl, rfl, rfl, rfl, rfl, trivial⟩) (H.to' [0] [0] (by decide) (by decide) rfl rfl)
      by_cases c2 : a.h < sT.n ∨ 2147483647 ≤ a.h
      · obtain ⟨e1, e2⟩ := Tb.lay_arg a.x c1 c2
        have q1 : Tb.S.doh sT a.d a.h = 0 := Tb.doh2 hd2
        have q2 : Tb.S.doe sT a.d a.h = 1 := (Tb.doe2 hd2).trans e1
        have q3 : Tb.S.act sT a.d a.h a.x = sT := (Tb.act2 hd2).trans e2
        rw [q1, q2] at F
        rw [q3] at H
        refine wp_block ?_
        refine Sx.seq (fun K51 hK51 => ?_)
        refine Sx.plain ?_
        refine Sx.sv F (Sx.d_faddr (v := .pointer (some ⟨g2, 0, none⟩)) F rfl rfl (fa_66_0 _ 0 _)) (Sx.wanted_none rfl _) rfl (by decide) (fun A F => ?_)
        refine Sx.sv F (Sx.d_load1 (i := 1) (v := .int .i64 a.d) one_3 F H rfl rfl rfl rfl) (Sx.wanted_none rfl _) rfl (by decide) (fun A F => ?_)
        refine Sx.sv F (Sx.d_bin (v := .bool false) F rfl rfl rfl (Sx.i_eq (beq_false_of_ne (by omega)))) (Sx.wanted_none rfl _) rfl (by decide) (fun A F => ?_)
        refine Sx.sv F (Sx.d_move F (Or.inl rfl) rfl) (Sx.wanted_none rfl _) rfl (by decide) (fun A F => ?_)
        refine Sx.su F (Sx.wanted_off rfl (Sx.guard_known (d := 47) (b := false) F rfl rfl) rfl) rfl (by decide) (fun A F => ?_)
        refine Sx.su F (Sx.wanted_off rfl (Sx.guard_known (d := 47) (b := false) F rfl rfl) rfl) rfl (by decide) (fun A F => ?_)
        refine Sx.sv F (Sx.d_pickF (v := .bool false) F rfl rfl rfl) (Sx.wanted_none rfl _) rfl (by decide) (fun A F => ?_)
        refine Sx.sv F (Sx.d_move F (Or.inl rfl) rfl) (Sx.wanted_none rfl _) rfl (by decide) (fun A F => ?_)
        refine Sx.sv F (Sx.d_faddr (v := .pointer (some ⟨g2, 0, none⟩)) F rfl rfl (fa_66_0 _ 0 _)) (Sx.wanted_on rfl (Sx.guard_known (d := 51) (b := false) F rfl rfl) rfl) rfl (by decide) (fun A F => ?_)
        refine Sx.sv F (Sx.d_load1 (i := 1) (v := .int .i64 a.d) one_3 F H rfl rfl rfl rfl) (Sx.wanted_on rfl (Sx.guard_known (d := 51) (b := false) F rfl rfl) rfl) rfl (by decide) (fun A F => ?_)
        refine Sx.sv F (Sx.d_bin (v := .bool true) F rfl rfl rfl (Sx.i_eq (beq_iff_eq.2 hd2))) (Sx.wanted_on rfl (Sx.guard_known (d := 51) (b := false) F rfl rfl) rfl) rfl (by decide) (fun A F => ?_)
        refine Sx.sv F (Sx.d_move F (Or.inl rfl) rfl) (Sx.wanted_on rfl (Sx.guard_known (d := 51) (b := false) F rfl rfl) rfl) rfl (by decide) (fun A F => ?_)
        refine Sx.sv F (Sx.d_move F (Or.inl rfl) rfl) (Sx.wanted_on rfl (Sx.guard_known (d := 55) (b := true) F rfl rfl) rfl) rfl (by decide) (fun A F => ?_)
        refine Sx.sv F (Sx.d_bin (v := .bool false) F rfl rfl rfl (Sx.i_eq (by decide))) (Sx.wanted_on rfl (Sx.guard_known (d := 55) (b := true) F rfl rfl) rfl) rfl (by decide) (fun A F => ?_)
        refine Sx.sv F (Sx.d_pickT (v := .bool false) F rfl rfl rfl) (Sx.wanted_on rfl (Sx.guard_known (d := 51) (b := false) F rfl rfl) rfl) rfl (by decide) (fun A F => ?_)
        refine Sx.sv F (Sx.d_pickF (v := .bool false) F rfl rfl rfl) (Sx.wanted_none rfl _) rfl (by decide) (fun A F => ?_)
        refine Sx.sv F (Sx.d_move F (Or.inr rfl) rfl) (Sx.wanted_none rfl _) rfl (by decide) (fun A F => ?_)
        refine Sx.nil ?_
        refine hK51 _ _ ?_
        refine Sx.condF F rfl ?_
        refine Sx.seq (fun K52 hK52 => ?_)
        refine Sx.plain ?_
        refine Sx.sv F (Sx.d_faddr (v := .pointer (some ⟨g2, 0, none⟩)) F rfl rfl (fa_66_0 _ 0 _)) (Sx.wanted_none rfl _) rfl (by decide) (fun A F => ?_)
        refine Sx.sv F (Sx.d_load1 (i := 1) (v := .int .i64 a.d) one_3 F H rfl rfl rfl rfl) (Sx.wanted_none rfl _) rfl (by decide) (fun A F => ?_)
        refine Sx.sv F (Sx.d_bin (v := .bool false) F rfl rfl rfl (Sx.i_eq (beq_false_of_ne (by omega)))) (Sx.wanted_none rfl _) rfl (by decide) (fun A F => ?_)
        refine Sx.sv F (Sx.d_move F (Or.inl rfl) rfl) (Sx.wanted_none rfl _) rfl (by decide) (fun A F => ?_)
        refine Sx.su F (Sx.wanted_off rfl (Sx.guard_known (d := 86) (b := false) F rfl rfl) rfl) rfl (by decide) (fun A F => ?_)
        refine Sx.su F (Sx.wanted_off rfl (Sx.guard_known (d := 86) (b := false) F rfl rfl) rfl) rfl (by decide) (fun A F => ?_)
        refine Sx.sv F (Sx.d_pickF (v := .bool false) F rfl rfl rfl) (Sx.wanted_none rfl _) rfl (by decide) (fun A F => ?_)
        refine Sx.sv F (Sx.d_move F (Or.inr rfl) rfl) (Sx.wanted_none rfl _) rfl (by decide) (fun A F => ?_)
        refine Sx.nil ?_
        refine hK52 _ _ ?_
        refine Sx.condF F rfl ?_
        refine wp_skip ?_
        exact rest (sT) gl (v2) _ _ _ _ hok hgo hm4 hm5 (F.to ⟨rfl, rfl, rfl, rfl, rfl, rfl, trivial⟩) (H.to' [0] [0] (by decide) (by decide) rfl rfl)
      · obtain ⟨e1, e2⟩ := Tb.lay_good a.x c1 c2
        have q1 : Tb.S.doh sT a.d a.h = 0 := Tb.doh2 hd2
        have q2 : Tb.S.doe sT a.d a.h = 0 := (Tb.doe2 hd2).trans e1
        have q3 : Tb.S.act sT a.d a.h a.x = Tb.S.lay sT a.h a.x := Tb.act2 hd2
        rw [q1, q2] at F
        rw [q3] at H
        refine wp_block ?_
        refine Sx.seq (fun K53 hK53 => ?_)
        refine Sx.plain ?_
        refine Sx.sv F (Sx.d_faddr (v := .pointer (some ⟨g2, 0, none⟩)) F rfl rfl (fa_66_0 _ 0 _)) (Sx.wanted_none rfl _) rfl (by decide) (fun A F => ?_)
        refine Sx.sv F (Sx.d_load1 (i := 1) (v := .int .i64 a.d) one_3 F H rfl rfl rfl rfl) (Sx.wanted_none rfl _) rfl (by decide) (fun A F => ?_)
        refine Sx.sv F (Sx.d_bin (v := .bool false) F rfl rfl rfl (Sx.i_eq (beq_false_of_ne (by omega)))) (Sx.wanted_none rfl _) rfl (by decide) (fun A F => ?_)
        refine Sx.sv F (Sx.d_move F (Or.inl rfl) rfl) (Sx.wanted_none rfl _) rfl (by decide) (fun A F => ?_)
        refine Sx.su F (Sx.wanted_off rfl (Sx.guard_known (d := 47) (b := false) F rfl rfl) rfl) rfl (by decide) (fun A F => ?_)
        refine Sx.su F (Sx.wanted_off rfl (Sx.guard_known (d := 47) (b := false) F rfl rfl) rfl) rfl (by decide) (fun A F => ?_)
        refine Sx.sv F (Sx.d_pickF (v := .bool false) F rfl rfl rfl) (Sx.wanted_none rfl _) rfl (by decide) (fun A F => ?_)
        refine Sx.sv F (Sx.d_move F (Or.inl rfl) rfl) (Sx.wanted_none rfl _) rfl (by decide) (fun A F => ?_)
        refine Sx.sv F (Sx.d_faddr (v := .pointer (some ⟨g2, 0, none⟩)) F rfl rfl (fa_66_0 _ 0 _)) (Sx.wanted_on rfl (Sx.guard_known (d := 51) (b := false) F rfl rfl) rfl) rfl (by decide) (fun A F => ?_)
        refine Sx.sv F (Sx.d_load1 (i := 1) (v := .int .i64 a.d) one_3 F H rfl rfl rfl rfl) (Sx.wanted_on rfl (Sx.guard_known (d := 51) (b := false) F rfl rfl) rfl) rfl (by decide) (fun A F => ?_)
        refine Sx.sv F (Sx.d_bin (v := .bool true) F rfl rfl rfl (Sx.i_eq (beq_iff_eq.2 hd2))) (Sx.wanted_on rfl (Sx.guard_known (d := 51) (b := false) F rfl rfl) rfl) rfl (by decide) (fun A F => ?_)
        refine Sx.sv F (Sx.d_move F (Or.inl rfl) rfl) (Sx.wanted_on rfl (Sx.guard_known (d := 51) (b := false) F rfl rfl) rfl) rfl (by decide) (fun A F => ?_)
        refine Sx.sv F (Sx.d_move F (Or.inl rfl) rfl) (Sx.wanted_on rfl (Sx.guard_known (d := 55) (b := true) F rfl rfl) rfl) rfl (by decide) (fun A F => ?_)
        refine Sx.sv F (Sx.d_bin (v := .bool true) F rfl rfl rfl (Sx.i_eq (by decide))) (Sx.wanted_on rfl (Sx.guard_known (d := 55) (b := true) F rfl rfl) rfl) rfl (by decide) (fun A F => ?_)
        refine Sx.sv F (Sx.d_pickT (v := .bool true) F rfl rfl rfl) (Sx.wanted_on rfl (Sx.guard_known (d := 51) (b := false) F rfl rfl) rfl) rfl (by decide) (fun A F => ?_)
        refine Sx.sv F (Sx.d_pickF (v := .bool true) F rfl rfl rfl) (Sx.wanted_none rfl _) rfl (by decide) (fun A F => ?_)
        refine Sx.sv F (Sx.d_move F (Or.inr rfl) rfl) (Sx.wanted_none rfl _) rfl (by decide) (fun A F => ?_)
        refine Sx.nil ?_
        refine hK53 _ _ ?_
        refine Sx.condT F rfl ?_
        refine Sx.seq (fun K54 hK54 => ?_)
        refine Sx.seq (fun K55 hK55 => ?_)
        refine Sx.plain ?_
        refine Sx.sv F (Sx.d_faddr (v := .pointer (some ⟨g2, 0, none⟩)) F rfl rfl (fa_66_0 _ 0 _)) (Sx.wanted_none rfl _) rfl (by decide) (fun A F => ?_)
        refine Sx.sv F (Sx.d_load1 (i := 1) (v := .int .i64 a.d) one_3 F H rfl rfl rfl rfl) (Sx.wanted_none rfl _) rfl (by decide) (fun A F => ?_)
        refine Sx.sv F (Sx.d_bin (v := .bool true) F rfl rfl rfl (Sx.i_eq (beq_iff_eq.2 hd2))) (Sx.wanted_none rfl _) rfl (by decide) (fun A F => ?_)
        refine Sx.nil ?_
        refine hK55 _ _ ?_
        refine Sx.condT F rfl ?_
        refine Sx.plain ?_
        refine Sx.sv F (Sx.d_faddr (v := .pointer (some ⟨g2, 1, none⟩)) F rfl rfl (fa_66_1 _ 0 _)) (Sx.wanted_none rfl _) rfl (by decide) (fun A F => ?_)
        refine Sx.sv F (Sx.d_load1 (i := 1) (v := .int .i64 a.h) one_3 F H rfl rfl rfl rfl) (Sx.wanted_none rfl _) rfl (by decide) (fun A F => ?_)
        refine Sx.sv F (Sx.d_move F (Or.inr rfl) rfl) (Sx.wanted_none rfl _) rfl (by decide) (fun A F => ?_)
        refine Sx.nil ?_
        refine hK54 _ _ ?_
        refine Sx.seq (fun K56 hK56 => ?_)
        refine Sx.seq (fun K57 hK57 => ?_)
        refine Sx.plain ?_
        refine Sx.sv F (Sx.d_move F (Or.inl rfl) rfl) (Sx.wanted_none rfl _) rfl (by decide) (fun A F => ?_)
        refine Sx.sv F (Sx.d_move F (Or.inl rfl) rfl) (Sx.wanted_none rfl _) rfl (by decide) (fun A F => ?_)
        refine Sx.sv F (Sx.d_lookup (b := false) (v := .int .u64 0) um4 uki uz6 F H rfl rfl rfl (Tb.K2_4 _ _ _ _) hm4 (Tb.hm_lk_no (s := sT) _ (Tb.has_big hok (by omega)))) (Sx.wanted_none rfl _) rfl (by decide) (fun A F => ?_)
        refine Sx.sv F (Sx.d_move F (Or.inl rfl) rfl) (Sx.wanted_none rfl _) rfl (by decide) (fun A F => ?_)
        refine Sx.sv F (Sx.d_extract (v := .int .u64 0) F rfl rfl rfl) (Sx.wanted_none rfl _) rfl (by decide) (fun A F => ?_)
        refine Sx.sv F (Sx.d_extract (v := .bool false) F rfl rfl rfl) (Sx.wanted_none rfl _) rfl (by decide) (fun A F => ?_)
        refine Sx.sv F (Sx.d_move F (Or.inr rfl) rfl) (Sx.wanted_none rfl _) rfl (by decide) (fun A F => ?_)
        refine Sx.sv F (Sx.d_move F (Or.inr rfl) rfl) (Sx.wanted_none rfl _) rfl (by decide) (fun A F => ?_)
        refine Sx.nil ?_
        refine hK57 _ _ ?_
        refine Sx.seq (fun K58 hK58 => ?_)
        refine Sx.plain ?_
        refine Sx.sv F (Sx.d_move F (Or.inl rfl) rfl) (Sx.wanted_none rfl _) rfl (by decide) (fun A F => ?_)
        refine Sx.sv F (Sx.d_move F (Or.inl rfl) rfl) (Sx.wanted_none rfl _) rfl (by decide) (fun A F => ?_)
        refine Sx.sv F (Sx.d_move F (Or.inl rfl) rfl) (Sx.wanted_on rfl (Sx.guard_known (d := 72) (b := false) F rfl rfl) rfl) rfl (by decide) (fun A F => ?_)
        refine Sx.sv F (Sx.d_move F (Or.inl rfl) rfl) (Sx.wanted_on rfl (Sx.guard_known (d := 72) (b := false) F rfl rfl) rfl) rfl (by decide) (fun A F => ?_)
        refine Sx.sv F (Sx.d_lookup1 (b := false) (v := .int .i64 0) um5 uki uz3 F H rfl rfl rfl (Tb.K2_5 hne _ _) hm5 (Tb.gm_lk_no _ (hgo.not_mem (by omega)))) (Sx.wanted_on rfl (Sx.guard_known (d := 72) (b := false) F rfl rfl) rfl) rfl (by decide) (fun A F => ?_)
        refine Sx.sv F (Sx.d_bin (v := .bool false) F rfl rfl rfl (Sx.i_gt (by decide))) (Sx.wanted_on rfl (Sx.guard_known (d := 72) (b := false) F rfl rfl) rfl) rfl (by decide) (fun A F => ?_)
        refine Sx.sv F (Sx.d_pickF (v := .bool false) F rfl rfl rfl) (Sx.wanted_none rfl _) rfl (by decide) (fun A F => ?_)
        refine Sx.nil ?_
        refine hK58 _ _ ?_
        refine Sx.condF F rfl ?_
        refine wp_skip ?_
        refine hK56 _ _ ?_
        refine Sx.plain ?_
        refine Sx.sv F (Sx.d_move F (Or.inl rfl) rfl) (Sx.wanted_none rfl _) rfl (by decide) (fun A F => ?_)
        refine Sx.sv F (Sx.d_move F (Or.inl rfl) rfl) (Sx.wanted_none rfl _) rfl (by decide) (fun A F => ?_)
        refine Sx.sv F (Sx.d_faddr (v := .pointer (some ⟨g2, 2, none⟩)) F rfl rfl (fa_66_2 _ 0 _)) (Sx.wanted_none rfl _) rfl (by decide) (fun A F => ?_)
        refine Sx.sv F (Sx.d_load1 (i := 1) (v := .int .u64 a.x.toNat) one_22 F H rfl rfl rfl rfl) (Sx.wanted_none rfl _) rfl (by decide) (fun A F => ?_)
        refine Sx.ss F (Sx.d_mapSet (l := (Tb.hm sT.l)) um4 uki F H rfl rfl rfl rfl (Tb.K2_4 _ _ _ _) hm4 (Tb.hm_none (s := sT) (Tb.has_big hok (by omega)))) (Sx.wanted_none rfl _) rfl (fun A w F HH => ?_)
        obtain ⟨o4', hm4', H⟩ := HH
        rw [Tb.K2_set4] at H
        rw [Tb.hm_lay a.x e1] at hm4'
        refine Sx.nil ?_
        exact rest (Tb.S.lay sT a.h a.x) gl (v2) _ _ _ _ (hok.lay _ _) (hgo.lay _ e1) hm4' hm5 (F.to ⟨rfl, rfl, rfl, rfl, rfl, rfl, trivial⟩) (H.to' [0] [0] (by decide) (by decide) rfl rfl)
    by_cases hd3 : a.d = 3
    · skip
      have q1 : Tb.S.doh sT a.d a.h = 0 := Tb.doh3 hd3
      have q2 : Tb.S.doe sT a.d a.h = Tb.S.goese sT a.h := Tb.doe3 hd3
      have q3 : Tb.S.act sT a.d a.h a.x = Tb.S.goes sT a.h := Tb.act3 hd3
      rw [q1, q2] at F
      rw [q3] at H
      refine wp_block ?_
      refine Sx.seq (fun K59 hK59 => ?_)
      refine Sx.plain ?_
      refine Sx.sv F (Sx.d_faddr (v := .pointer (some ⟨g2, 0, none⟩)) F rfl rfl (fa_66_0 _ 0 _)) (Sx.wanted_none rfl _) rfl (by decide) (fun A F => ?_)
      refine Sx.sv F (Sx.d_load1 (i := 1) (v := .int .i64 a.d) one_3 F H rfl rfl rfl rfl) (Sx.wanted_none rfl _) rfl (by decide) (fun A F => ?_)
      refine Sx.sv F (Sx.d_bin (v := .bool false) F rfl rfl rfl (Sx.i_eq (beq_false_of_ne hd0))) (Sx.wanted_none rfl _) rfl (by decide) (fun A F => ?_)
      refine Sx.sv F (Sx.d_move F (Or.inl rfl) rfl) (Sx.wanted_none rfl _) rfl (by decide) (fun A F => ?_)
      refine Sx.su F (Sx.wanted_off rfl (Sx.guard_known (d := 47) (b := false) F rfl rfl) rfl) rfl (by decide) (fun A F => ?_)
      refine Sx.su F (Sx.wanted_off rfl (Sx.guard_known (d := 47) (b := false) F rfl rfl) rfl) rfl (by decide) (fun A F => ?_)
      refine Sx.sv F (Sx.d_pickF (v := .bool false) F rfl rfl rfl) (Sx.wanted_none rfl _) rfl (by decide) (fun A F => ?_)
      refine Sx.sv F (Sx.d_move F (Or.inl rfl) rfl) (Sx.wanted_none rfl _) rfl (by decide) (fun A F => ?_)
      refine Sx.sv F (Sx.d_faddr (v := .pointer (some ⟨g2, 0, none⟩)) F rfl rfl (fa_66_0 _ 0 _)) (Sx.wanted_on rfl (Sx.guard_known (d := 51) (b := false) F rfl rfl) rfl) rfl (by decide) (fun A F => ?_)
      refine Sx.sv F (Sx.d_load1 (i := 1) (v := .int .i64 a.d) one_3 F H rfl rfl rfl rfl) (Sx.wanted_on rfl (Sx.guard_known (d := 51) (b := false) F rfl rfl) rfl) rfl (by decide) (fun A F => ?_)
      refine Sx.sv F (Sx.d_bin (v := .bool false) F rfl rfl rfl (Sx.i_eq (beq_false_of_ne hd2))) (Sx.wanted_on rfl (Sx.guard_known (d := 51) (b := false) F rfl rfl) rfl) rfl (by decide) (fun A F => ?_)
      refine Sx.sv F (Sx.d_move F (Or.inl rfl) rfl) (Sx.wanted_on rfl (Sx.guard_known (d := 51) (b := false) F rfl rfl) rfl) rfl (by decide) (fun A F => ?_)
      refine Sx.su F (Sx.wanted_off rfl (Sx.guard_known (d := 55) (b := false) F rfl rfl) rfl) rfl (by decide) (fun A F => ?_)
      refine Sx.su F (Sx.wanted_off rfl (Sx.guard_known (d := 55) (b := false) F rfl rfl) rfl) rfl (by decide) (fun A F => ?_)
      refine Sx.sv F (Sx.d_pickF (v := .bool false) F rfl rfl rfl) (Sx.wanted_on rfl (Sx.guard_known (d := 51) (b := false) F rfl rfl) rfl) rfl (by decide) (fun A F => ?_)
      refine Sx.sv F (Sx.d_pickF (v := .bool false) F rfl rfl rfl) (Sx.wanted_none rfl _) rfl (by decide) (fun A F => ?_)
      refine Sx.sv F (Sx.d_move F (Or.inr rfl) rfl) (Sx.wanted_none rfl _) rfl (by decide) (fun A F => ?_)
      refine Sx.nil ?_
      refine hK59 _ _ ?_
      refine Sx.condF F rfl ?_
      refine Sx.seq (fun K60 hK60 => ?_)
      refine Sx.plain ?_
      refine Sx.sv F (Sx.d_faddr (v := .pointer (some ⟨g2, 0, none⟩)) F rfl rfl (fa_66_0 _ 0 _)) (Sx.wanted_none rfl _) rfl (by decide) (fun A F => ?_)
      refine Sx.sv F (Sx.d_load1 (i := 1) (v := .int .i64 a.d) one_3 F H rfl rfl rfl rfl) (Sx.wanted_none rfl _) rfl (by decide) (fun A F => ?_)
      refine Sx.sv F (Sx.d_bin (v := .bool false) F rfl rfl rfl (Sx.i_eq (beq_false_of_ne hd1))) (Sx.wanted_none rfl _) rfl (by decide) (fun A F => ?_)
      refine Sx.sv F (Sx.d_move F (Or.inl rfl) rfl) (Sx.wanted_none rfl _) rfl (by decide) (fun A F => ?_)
      refine Sx.su F (Sx.wanted_off rfl (Sx.guard_known (d := 86) (b := false) F rfl rfl) rfl) rfl (by decide) (fun A F => ?_)
      refine Sx.su F (Sx.wanted_off rfl (Sx.guard_known (d := 86) (b := false) F rfl rfl) rfl) rfl (by decide) (fun A F => ?_)
      refine Sx.sv F (Sx.d_pickF (v := .bool false) F rfl rfl rfl) (Sx.wanted_none rfl _) rfl (by decide) (fun A F => ?_)
      refine Sx.sv F (Sx.d_move F (Or.inr rfl) rfl) (Sx.wanted_none rfl _) rfl (by decide) (fun A F => ?_)
      refine Sx.nil ?_
      refine hK60 _ _ ?_
      refine Sx.condF F rfl ?_
      refine wp_skip ?_
      exact rest (Tb.S.goes sT a.h) gl (v2) _ _ _ _ (hok.goes _) (hgo.goes _) (by rw [Tb.goes_l]; exact hm4) hm5 (F.to ⟨rfl, rfl, rfl, rfl, rfl, rfl, trivial⟩) (H.to' [0] [0] (by decide) (by decide) rfl rfl)
    · skip
      have q1 : Tb.S.doh sT a.d a.h = 0 := Tb.doh4 hd0 hd1
      have q2 : Tb.S.doe sT a.d a.h = 0 := Tb.doe4 hd0 hd1 hd2 hd3
      have q3 : Tb.S.act sT a.d a.h a.x = sT := Tb.act4 hd0 hd1 hd2 hd3
      rw [q1, q2] at F
      rw [q3] at H
      refine wp_block ?_
      refine Sx.seq (fun K61 hK61 => ?_)
      refine Sx.plain ?_
      refine Sx.sv F (Sx.d_faddr (v := .pointer (some ⟨g2, 0, none⟩)) F rfl rfl (fa_66_0 _ 0 _)) (Sx.wanted_none rfl _) rfl (by decide) (fun A F => ?_)
      refine Sx.sv F (Sx.d_load1 (i := 1) (v := .int .i64 a.d) one_3 F H rfl rfl rfl rfl) (Sx.wanted_none rfl _) rfl (by decide) (fun A F => ?_)
      refine Sx.sv F (Sx.d_bin (v := .bool false) F rfl rfl rfl (Sx.i_eq (beq_false_of_ne hd0))) (Sx.wanted_none rfl _) rfl (by decide) (fun A F => ?_)
      refine Sx.sv F (Sx.d_move F (Or.inl rfl) rfl) (Sx.wanted_none rfl _) rfl (by decide) (fun A F => ?_)
      refine Sx.su F (Sx.wanted_off rfl (Sx.guard_known (d := 47) (b := false) F rfl rfl) rfl) rfl (by decide) (fun A F => ?_)
      refine Sx.su F (Sx.wanted_off rfl (Sx.guard_known (d := 47) (b := false) F rfl rfl) rfl) rfl (by decide) (fun A F => ?_)
      refine Sx.sv F (Sx.d_pickF (v := .bool false) F rfl rfl rfl) (Sx.wanted_none rfl _) rfl (by decide) (fun A F => ?_)
      refine Sx.sv F (Sx.d_move F (Or.inl rfl) rfl) (Sx.wanted_none rfl _) rfl (by decide) (fun A F => ?_)
      refine Sx.sv F (Sx.d_faddr (v := .pointer (some ⟨g2, 0, none⟩)) F rfl rfl (fa_66_0 _ 0 _)) (Sx.wanted_on rfl (Sx.guard_known (d := 51) (b := false) F rfl rfl) rfl) rfl (by decide) (fun A F => ?_)
      refine Sx.sv F (Sx.d_load1 (i := 1) (v := .int .i64 a.d) one_3 F H rfl rfl rfl rfl) (Sx.wanted_on rfl (Sx.guard_known (d := 51) (b := false) F rfl rfl) rfl) rfl (by decide) (fun A F => ?_)
      refine Sx.sv F (Sx.d_bin (v := .bool false) F rfl rfl rfl (Sx.i_eq (beq_false_of_ne hd2))) (Sx.wanted_on rfl (Sx.guard_known (d := 51) (b := false) F rfl rfl) rfl) rfl (by decide) (fun A F => ?_)
      refine Sx.sv F (Sx.d_move F (Or.inl rfl) rfl) (Sx.wanted_on rfl (Sx.guard_known (d := 51) (b := false) F rfl rfl) rfl) rfl (by decide) (fun A F => ?_)
      refine Sx.su F (Sx.wanted_off rfl (Sx.guard_known (d := 55) (b := false) F rfl rfl) rfl) rfl (by decide) (fun A F => ?_)
      refine Sx.su F (Sx.wanted_off rfl (Sx.guard_known (d := 55) (b := false) F rfl rfl) rfl) rfl (by decide) (fun A F => ?_)
      refine Sx.sv F (Sx.d_pickF (v := .bool false) F rfl rfl rfl) (Sx.wanted_on rfl (Sx.guard_known (d := 51) (b := false) F rfl rfl) rfl) rfl (by decide) (fun A F => ?_)
      refine Sx.sv F (Sx.d_pickF (v := .bool false) F rfl rfl rfl) (Sx.wanted_none rfl _) rfl (by decide) (fun A F => ?_)
      refine Sx.sv F (Sx.d_move F (Or.inr rfl) rfl) (Sx.wanted_none rfl _) rfl (by decide) (fun A F => ?_)
      refine Sx.nil ?_
      refine hK61 _ _ ?_
      refine Sx.condF F rfl ?_
      refine Sx.seq (fun K62 hK62 => ?_)
      refine Sx.plain ?_
      refine Sx.sv F (Sx.d_faddr (v := .pointer (some ⟨g2, 0, none⟩)) F rfl rfl (fa_66_0 _ 0 _)) (Sx.wanted_none rfl _) rfl (by decide) (fun A F => ?_)
      refine Sx.sv F (Sx.d_load1 (i := 1) (v := .int .i64 a.d) one_3 F H rfl rfl rfl rfl) (Sx.wanted_none rfl _) rfl (by decide) (fun A F => ?_)
      refine Sx.sv F (Sx.d_bin (v := .bool false) F rfl rfl rfl (Sx.i_eq (beq_false_of_ne hd1))) (Sx.wanted_none rfl _) rfl (by decide) (fun A F => ?_)
      refine Sx.sv F (Sx.d_move F (Or.inl rfl) rfl) (Sx.wanted_none rfl _) rfl (by decide) (fun A F => ?_)
      refine Sx.su F (Sx.wanted_off rfl (Sx.guard_known (d := 86) (b := false) F rfl rfl) rfl) rfl (by decide) (fun A F => ?_)
      refine Sx.su F (Sx.wanted_off rfl (Sx.guard_known (d := 86) (b := false) F rfl rfl) rfl) rfl (by decide) (fun A F => ?_)
      refine Sx.sv F (Sx.d_pickF (v := .bool false) F rfl rfl rfl) (Sx.wanted_none rfl _) rfl (by decide) (fun A F => ?_)
      refine Sx.sv F (Sx.d_move F (Or.inr rfl) rfl) (Sx.wanted_none rfl _) rfl (by decide) (fun A F => ?_)
      refine Sx.nil ?_
      refine hK62 _ _ ?_
      refine Sx.condF F rfl ?_
      refine wp_skip ?_
      exact rest (sT) gl (v2) _ _ _ _ hok hgo hm4 hm5 (F.to ⟨rfl, rfl, rfl, rfl, rfl, rfl, trivial⟩) (H.to' [0] [0] (by decide) (by decide) rfl rfl)
  · have hie : i = al.length := by omega
    rw [hie] at F
    refine Sx.seq (fun K63 hK63 => ?_)
    refine Sx.plain ?_
    refine Sx.sv F (Sx.d_bin (v := .bool false) F rfl rfl rfl (Sx.i_lt (by simp))) (Sx.wanted_none rfl _) rfl (by decide) (fun A F => ?_)
    refine Sx.nil ?_
    refine hK63 _ _ ?_
    refine Sx.seq (fun K64 hK64 => ?_)
    refine Sx.condF F rfl ?_
    refine wp_exit ?_
    try dsimp only [Exit.then, Exit.jump]
    refine Sx.exit_here ?_
    refine hK10 _ _ ?_
    refine Sx.seq (fun K65 hK65 => ?_)
    refine Sx.plain ?_
    refine Sx.sv F (Sx.d_move F (Or.inr rfl) rfl) (Sx.wanted_none rfl _) rfl (by decide) (fun A F => ?_)
    refine Sx.nil ?_
    refine hK65 _ _ ?_
    refine wp_ret ?_
    try dsimp only [Exit.then, Exit.inBlock, Exit.jump]
    refine Sx.ret1 F Try.results8 (Sx.res_tmp (v := .bool true) F rfl) ⟨?_, H.below⟩
    rfl
theorem tableStays_walk (v : Value) (al : List Tb.Act) (w : World) (ha : Tb.Acts w v al) : Calls Try.prog 8 #[v] w fun e w' => e = .returned (.bool true) ∧ Below w.heap.size w w' := by
  obtain ⟨ada, capa, rfl, hb, hca⟩ := ha
  by_cases hl : 100 < al.length
  · exact tableStays_long al ada capa hl w
  · exact tableStays_s al ada capa (by omega) w hb hca
end Go.Proofs.Ytpbdffmgendboab
