/- TableDoes walked. -/
import Derived.Test.YtpbdffmgendboabTw
import Derived.Test.YtpbdffmgendboabTr
import Derived.Test.YtpbdffmgendboabActPlain
namespace Go.Proofs.Ytpbdffmgendboab
open Go Go.RowKit
set_option maxRecDepth 100000 in
theorem tableDoes_long (al : List Tb.Act) (ada : Option Addr) (capa : Nat) (h : Int) (hl : 100 < al.length) (w0 : World) : Calls Try.prog 7 #[.slice ada al.length capa, .int .i64 h] w0 fun e w' => e = .returned (.bool true) ∧ Below w0.heap.size w0 w' := by
  refine Sx.enter (args := [.slice ada al.length capa, .int .i64 h]) Try.func7 rfl Try.ntmps7 (Nat.le_of_ble_eq_true rfl) (fun A F => ?_)
  have H := Sx.Own.start w0
  refine Sx.seq (fun K1 hK1 => ?_)
  refine Sx.plain ?_
  refine Sx.sv F (Sx.d_move F (Or.inr rfl) rfl) (Sx.wanted_none rfl _) rfl (by decide) (fun A F => ?_)
  refine Sx.nil ?_
  refine hK1 _ _ ?_
  refine Sx.seq (fun K2 hK2 => ?_)
  refine Sx.seq (fun K3 hK3 => ?_)
  refine Sx.plain ?_
  refine Sx.sw F (Sx.d_call (vs := []) (v := .bool true) if_36 F H rfl rfl (awake19_c _)) (Sx.wanted_none rfl _) rfl (by decide) (fun A w F H => ?_)
  refine Sx.sv F (Sx.d_un (v := .bool false) F rfl rfl rfl) (Sx.wanted_none rfl _) rfl (by decide) (fun A F => ?_)
  refine Sx.nil ?_
  refine hK3 _ _ ?_
  refine Sx.condF F rfl ?_
  refine wp_skip ?_
  refine hK2 _ _ ?_
  refine Sx.seq (fun K4 hK4 => ?_)
  refine Sx.seq (fun K5 hK5 => ?_)
  refine Sx.plain ?_
  refine Sx.sv F (Sx.d_move F (Or.inl rfl) rfl) (Sx.wanted_none rfl _) rfl (by decide) (fun A F => ?_)
  refine Sx.sv F (Sx.d_lenS el_58 F rfl rfl) (Sx.wanted_none rfl _) rfl (by decide) (fun A F => ?_)
  refine Sx.sv F (Sx.d_bin (v := .bool true) F rfl rfl rfl (Sx.i_gt (decide_eq_true (by omega)))) (Sx.wanted_none rfl _) rfl (by decide) (fun A F => ?_)
  refine Sx.nil ?_
  refine hK5 _ _ ?_
  refine Sx.condT F rfl ?_
  refine Sx.seq (fun K6 hK6 => ?_)
  refine Sx.plain ?_
  refine Sx.sv F (Sx.d_move F (Or.inr rfl) rfl) (Sx.wanted_none rfl _) rfl (by decide) (fun A F => ?_)
  refine Sx.nil ?_
  refine hK6 _ _ ?_
  refine wp_ret ?_
  try dsimp only [Exit.then, Exit.inBlock, Exit.jump]
  refine Sx.ret1 F Try.results7 (Sx.res_tmp (v := .bool true) F rfl) ⟨?_, H.below⟩
  rfl
set_option maxHeartbeats 4000000 in
set_option maxRecDepth 100000 in
theorem tableDoes_s (al : List Tb.Act) (ada : Option Addr) (capa : Nat) (h : Int) (hl : al.length ≤ 100) (w0 : World) (hb : ∀ a ∈ al, -9223372036854775808 ≤ a.h ∧ a.h ≤ 9223372036854775807) (hca : ∀ k a, al[k]? = some a → ∃ g o, ada = some ⟨g, o, none⟩ ∧ w0.cell? ⟨g, o + k * 3, none⟩ = some (.int .i64 a.d) ∧ w0.cell? ⟨g, o + k * 3 + 1, none⟩ = some (.int .i64 a.h) ∧ w0.cell? ⟨g, o + k * 3 + 2, none⟩ = some (.int .u64 (a.x.toNat : Nat))) : Calls Try.prog 7 #[.slice ada al.length capa, .int .i64 h] w0 fun e w' => e = .returned (.bool true) ∧ Below w0.heap.size w0 w' := by
  refine Sx.enter (args := [.slice ada al.length capa, .int .i64 h]) Try.func7 rfl Try.ntmps7 (Nat.le_of_ble_eq_true rfl) (fun A F => ?_)
  have H := Sx.Own.start w0
  refine Sx.seq (fun K1 hK1 => ?_)
  refine Sx.plain ?_
  refine Sx.sv F (Sx.d_move F (Or.inr rfl) rfl) (Sx.wanted_none rfl _) rfl (by decide) (fun A F => ?_)
  refine Sx.nil ?_
  refine hK1 _ _ ?_
  refine Sx.seq (fun K2 hK2 => ?_)
  refine Sx.seq (fun K3 hK3 => ?_)
  refine Sx.plain ?_
  refine Sx.sw F (Sx.d_call (vs := []) (v := .bool true) if_36 F H rfl rfl (awake19_c _)) (Sx.wanted_none rfl _) rfl (by decide) (fun A w F H => ?_)
  refine Sx.sv F (Sx.d_un (v := .bool false) F rfl rfl rfl) (Sx.wanted_none rfl _) rfl (by decide) (fun A F => ?_)
  refine Sx.nil ?_
  refine hK3 _ _ ?_
  refine Sx.condF F rfl ?_
  refine wp_skip ?_
  refine hK2 _ _ ?_
  refine Sx.seq (fun K4 hK4 => ?_)
  refine Sx.seq (fun K5 hK5 => ?_)
  refine Sx.plain ?_
  refine Sx.sv F (Sx.d_move F (Or.inl rfl) rfl) (Sx.wanted_none rfl _) rfl (by decide) (fun A F => ?_)
  refine Sx.sv F (Sx.d_lenS el_58 F rfl rfl) (Sx.wanted_none rfl _) rfl (by decide) (fun A F => ?_)
  refine Sx.sv F (Sx.d_bin (v := .bool false) F rfl rfl rfl (Sx.i_gt (decide_eq_false (by omega)))) (Sx.wanted_none rfl _) rfl (by decide) (fun A F => ?_)
  refine Sx.nil ?_
  refine hK5 _ _ ?_
  refine Sx.condF F rfl ?_
  refine wp_skip ?_
  refine hK4 _ _ ?_
  refine Sx.seq (fun K6 hK6 => ?_)
  refine Sx.plain ?_
  refine Sx.sj F (Sx.d_callO (vs := []) if_37 F rfl rfl (Sx.jj H (tnew_c _))) (Sx.wanted_none rfl _) rfl (by decide) (fun g1 v1 A w F (H : Sx.Own w0 _ [(true, g1, [v1, .int .i64 Tb.S.new.n])] [⟨true, v1, 107, 2, Tb.S.new.l.length, (Tb.cells Tb.S.new.l)⟩]) => ?_)
  refine Sx.sv F (Sx.d_build (qs := #[]) (v := .agg #[.slice none 0 0, .int .i64 0]) F rfl rfl (by kernel_rfl)) (Sx.wanted_none rfl _) rfl (by decide) (fun A F => ?_)
  refine Sx.sb F (Sx.d_box F H rfl rfl [.slice none 0 0, .int .i64 0] rfl) (Sx.wanted_none rfl _) rfl (by decide) (fun g2 A w F H => ?_)
  refine Sx.sv F (Sx.d_move F (Or.inr rfl) rfl) (Sx.wanted_none rfl _) rfl (by decide) (fun A F => ?_)
  refine Sx.sv F (Sx.d_move F (Or.inr rfl) rfl) (Sx.wanted_none rfl _) rfl (by decide) (fun A F => ?_)
  refine Sx.nil ?_
  refine hK6 _ _ ?_
  refine Sx.seq (fun K7 hK7 => ?_)
  refine Sx.seq (fun K8 hK8 => ?_)
  refine Sx.plain ?_
  refine Sx.sv F (Sx.d_move F (Or.inl rfl) rfl) (Sx.wanted_none rfl _) rfl (by decide) (fun A F => ?_)
  refine Sx.sv F (Sx.d_bin (v := .bool false) F rfl rfl rfl Sx.pnil) (Sx.wanted_none rfl _) rfl (by decide) (fun A F => ?_)
  refine Sx.nil ?_
  refine hK8 _ _ ?_
  refine Sx.condF F rfl ?_
  refine wp_skip ?_
  refine hK7 _ _ ?_
  refine Sx.seq (fun K9 hK9 => ?_)
  refine Sx.seq (fun K10 hK10 => ?_)
  refine Sx.plain ?_
  refine Sx.sv F (Sx.d_move F (Or.inl rfl) rfl) (Sx.wanted_none rfl _) rfl (by decide) (fun A F => ?_)
  refine Sx.sv F (Sx.d_lenS el_58 F rfl rfl) (Sx.wanted_none rfl _) rfl (by decide) (fun A F => ?_)
  refine Sx.sv F (Sx.d_move F (Or.inl rfl) rfl) (Sx.wanted_none rfl _) rfl (by decide) (fun A F => ?_)
  refine Sx.nil ?_
  refine hK10 _ _ ?_
  refine wp_block ?_
  have H := Sx.Own.nilR H 103 2
  refine Sx.loop (fun q A w => ∃ (i : Nat) (sT : Tb.S) (v u : Value), q = al.length - i ∧ i ≤ al.length ∧ sT.ok ∧ Sx.Fr 118 A [(1, .int .i64 h), (5, .pointer (some ⟨g1, 0, none⟩)), (6, .pointer (some ⟨g2, 0, none⟩)), (27, .slice ada al.length capa), (28, .int .i64 al.length), (29, .int .i64 i)] ∧ Sx.Own w0 w [(true, g1, [v, .int .i64 sT.n]), (true, g2, [u, .int .i64 sT.n])] [⟨true, v, 107, 2, sT.l.length, (Tb.cells sT.l)⟩, ⟨true, u, 103, 2, sT.l.length, (Tb.cells sT.l)⟩]) al.length ⟨0, Tb.S.new, v1, .slice none 0 0, rfl, Nat.zero_le _, Tb.S.ok.new, F.to ⟨rfl, rfl, rfl, rfl, rfl, rfl, trivial⟩, H.to' [1, 0] [1, 0] (by decide) (by decide) rfl rfl⟩ ?_
  rintro q A w ⟨i, sT, v, u, rfl, hi, hok, F, H⟩
  by_cases hlt : i < al.length
  · obtain ⟨a, ha⟩ : ∃ a, al[i]? = some a := ⟨_, List.getElem?_eq_getElem hlt⟩
    obtain ⟨ga, oa, hada, hcell0, hcell1, hcell2⟩ := hca i a ha
    have hbh := hb a (List.mem_of_getElem? ha)
    refine Sx.seq (fun K11 hK11 => ?_)
    refine Sx.plain ?_
    refine Sx.sv F (Sx.d_bin (v := .bool true) F rfl rfl rfl (Sx.i_lt (decide_eq_true (by omega)))) (Sx.wanted_none rfl _) rfl (by decide) (fun A F => ?_)
    refine Sx.nil ?_
    refine hK11 _ _ ?_
    refine Sx.seq (fun K12 hK12 => ?_)
    refine Sx.condT F rfl ?_
    refine wp_skip ?_
    refine hK12 _ _ ?_
    refine Sx.seq (fun K13 hK13 => ?_)
    refine wp_block ?_
    refine Sx.seq (fun K14 hK14 => ?_)
    refine Sx.plain ?_
    refine Sx.sv F (Sx.d_ixZ (k := i) (g := ga) (off := oa) (z := 3) el_58 F rfl rfl hada rfl (rfl) (by omega)) (Sx.wanted_none rfl _) rfl (by decide) (fun A F => ?_)
    refine Sx.sv F (Sx.d_loadF3 rw_66 F H rfl rfl hcell0 hcell1 hcell2) (Sx.wanted_none rfl _) rfl (by decide) (fun A F => ?_)
    refine Sx.sb F (Sx.d_alloc H rfl [.int .i64 0, .int .i64 0, .int .u64 0] zero_66) (Sx.wanted_none rfl _) rfl (by decide) (fun g3 A w F H => ?_)
    refine Sx.ss F (Sx.d_store (i := 0) (xs := [.int .i64 a.d, .int .i64 a.h, .int .u64 a.x.toNat]) (us := [.int .i64 a.d, .int .i64 a.h, .int .u64 a.x.toNat]) sz_66 F H rfl rfl rfl rfl rfl rfl rfl (Nat.le_of_ble_eq_true rfl) rfl) (Sx.wanted_none rfl _) rfl (fun A w F (H : Sx.Own w0 _ [(true, g3, [.int .i64 a.d, .int .i64 a.h, .int .u64 a.x.toNat]), (true, g1, [v, .int .i64 sT.n]), (true, g2, [u, .int .i64 sT.n])] [⟨true, v, 107, 2, sT.l.length, (Tb.cells sT.l)⟩, ⟨true, u, 103, 2, sT.l.length, (Tb.cells sT.l)⟩]) => ?_)
    refine Sx.nil ?_
    refine hK14 _ _ ?_
    refine Sx.seq (fun K15 hK15 => ?_)
    refine Sx.plain ?_
    refine Sx.sv F (Sx.d_move F (Or.inl rfl) rfl) (Sx.wanted_none rfl _) rfl (by decide) (fun A F => ?_)
    refine Sx.sv F (Sx.d_load (i := 0) (xs := [.int .i64 a.d, .int .i64 a.h, .int .u64 a.x.toNat]) rw_66 F H rfl rfl rfl rfl rfl) (Sx.wanted_none rfl _) rfl (by decide) (fun A F => ?_)
    have H : Sx.Own w0 w [(true, g1, [v, .int .i64 sT.n]), (true, g3, [.int .i64 a.d, .int .i64 a.h, .int .u64 a.x.toNat]), (true, g2, [u, .int .i64 sT.n])] [⟨true, v, 107, 2, sT.l.length, (Tb.cells sT.l)⟩, ⟨true, u, 103, 2, sT.l.length, (Tb.cells sT.l)⟩] := H.to' [1, 0, 2] [0, 1] (by decide) (by decide) rfl rfl
    refine Sx.so (x := .tuple #[.int .i64 (Tb.S.doh sT a.d a.h), .int .i64 (Tb.S.doe sT a.d a.h)]) F (Sx.d_callO (vs := [.pointer (some ⟨g1, 0, none⟩), .agg #[.int .i64 a.d, .int .i64 a.h, .int .u64 a.x.toNat]]) if_38 F rfl rfl (Sx.oo (tdo_k sT a.d a.h (by omega) a.x hok _ _ _ _ H))) (Sx.wanted_none rfl _) rfl (by decide) (fun v2 A w F (H : Sx.Own w0 _ [(true, g1, [v2, .int .i64 ((Tb.S.act sT a.d a.h a.x).n)]), (true, g3, [.int .i64 a.d, .int .i64 a.h, .int .u64 a.x.toNat]), (true, g2, [u, .int .i64 sT.n])] [⟨true, v2, 107, 2, (Tb.S.act sT a.d a.h a.x).l.length, (Tb.cells (Tb.S.act sT a.d a.h a.x).l)⟩, ⟨true, u, 103, 2, sT.l.length, (Tb.cells sT.l)⟩]) => ?_)
    refine Sx.sv F (Sx.d_move F (Or.inl rfl) rfl) (Sx.wanted_none rfl _) rfl (by decide) (fun A F => ?_)
    refine Sx.sv F (Sx.d_extract (v := .int .i64 (Tb.S.doh sT a.d a.h)) F rfl rfl rfl) (Sx.wanted_none rfl _) rfl (by decide) (fun A F => ?_)
    refine Sx.sv F (Sx.d_extract (v := .int .i64 (Tb.S.doe sT a.d a.h)) F rfl rfl rfl) (Sx.wanted_none rfl _) rfl (by decide) (fun A F => ?_)
    refine Sx.sv F (Sx.d_move F (Or.inr rfl) rfl) (Sx.wanted_none rfl _) rfl (by decide) (fun A F => ?_)
    refine Sx.sv F (Sx.d_move F (Or.inr rfl) rfl) (Sx.wanted_none rfl _) rfl (by decide) (fun A F => ?_)
    refine Sx.nil ?_
    refine hK15 _ _ ?_
    refine Sx.seq (fun K16 hK16 => ?_)
    refine Sx.plain ?_
    refine Sx.sv F (Sx.d_move F (Or.inr rfl) rfl) (Sx.wanted_none rfl _) rfl (by decide) (fun A F => ?_)
    refine Sx.sv F (Sx.d_move F (Or.inr rfl) rfl) (Sx.wanted_none rfl _) rfl (by decide) (fun A F => ?_)
    refine Sx.nil ?_
    refine hK16 _ _ ?_
    refine Sx.seq (fun Kx hKx => ?_)
    have rest : ∀ (s2 : Tb.S) (hm hf : Int) (v' u' : Value) A w, s2.ok → Sx.Fr 118 A [(1, .int .i64 h), (5, .pointer (some ⟨g1, 0, none⟩)), (6, .pointer (some ⟨g2, 0, none⟩)), (27, .slice ada al.length capa), (28, .int .i64 al.length), (29, .int .i64 i), (9, .int .i64 hm), (10, .int .i64 hf), (11, .int .i64 hm), (12, .int .i64 hf)] → Sx.Own w0 w [(true, g1, [v', .int .i64 s2.n]), (true, g2, [u', .int .i64 s2.n])] [⟨true, v', 107, 2, s2.l.length, (Tb.cells s2.l)⟩, ⟨true, u', 103, 2, s2.l.length, (Tb.cells s2.l)⟩] → Kx A w := by
      intro s2 hm hf v' u' A w hok2 F H
      refine hKx _ _ ?_
      refine Sx.seq (fun K17 hK17 => ?_)
      refine Sx.plain ?_
      refine Sx.sv F (Sx.d_move F (Or.inl rfl) rfl) (Sx.wanted_none rfl _) rfl (by decide) (fun A F => ?_)
      refine Sx.sv F (Sx.d_move F (Or.inl rfl) rfl) (Sx.wanted_none rfl _) rfl (by decide) (fun A F => ?_)
      refine Sx.sw F (Sx.d_call (vs := [.pointer (some ⟨g1, 0, none⟩), .int .i64 h]) (v := .tuple #[.int .u64 ((Tb.S.val s2 h).toNat), .bool (Tb.S.has s2 h)]) if_43 F H rfl rfl (tget_c s2 hok2 h _ _ (Tb.See.own (i := 0) (j := 0) H rfl rfl))) (Sx.wanted_none rfl _) rfl (by decide) (fun A w F H => ?_)
      refine Sx.sv F (Sx.d_move F (Or.inl rfl) rfl) (Sx.wanted_none rfl _) rfl (by decide) (fun A F => ?_)
      refine Sx.sv F (Sx.d_extract (v := .int .u64 ((Tb.S.val s2 h).toNat)) F rfl rfl rfl) (Sx.wanted_none rfl _) rfl (by decide) (fun A F => ?_)
      refine Sx.sv F (Sx.d_extract (v := .bool (Tb.S.has s2 h)) F rfl rfl rfl) (Sx.wanted_none rfl _) rfl (by decide) (fun A F => ?_)
      refine Sx.sv F (Sx.d_move F (Or.inr rfl) rfl) (Sx.wanted_none rfl _) rfl (by decide) (fun A F => ?_)
      refine Sx.sv F (Sx.d_move F (Or.inr rfl) rfl) (Sx.wanted_none rfl _) rfl (by decide) (fun A F => ?_)
      refine Sx.nil ?_
      refine hK17 _ _ ?_
      refine Sx.seq (fun K18 hK18 => ?_)
      refine Sx.plain ?_
      refine Sx.sv F (Sx.d_move F (Or.inl rfl) rfl) (Sx.wanted_none rfl _) rfl (by decide) (fun A F => ?_)
      refine Sx.sv F (Sx.d_move F (Or.inl rfl) rfl) (Sx.wanted_none rfl _) rfl (by decide) (fun A F => ?_)
      refine Sx.sw F (Sx.d_call (vs := [.pointer (some ⟨g2, 0, none⟩), .int .i64 h]) (v := .tuple #[.int .u64 ((Tb.S.val s2 h).toNat), .bool (Tb.S.has s2 h)]) if_44 F H rfl rfl (rtget_c s2 hok2 h _ _ (Tb.See.own (i := 1) (j := 1) H rfl rfl))) (Sx.wanted_none rfl _) rfl (by decide) (fun A w F H => ?_)
      refine Sx.sv F (Sx.d_move F (Or.inl rfl) rfl) (Sx.wanted_none rfl _) rfl (by decide) (fun A F => ?_)
      refine Sx.sv F (Sx.d_extract (v := .int .u64 ((Tb.S.val s2 h).toNat)) F rfl rfl rfl) (Sx.wanted_none rfl _) rfl (by decide) (fun A F => ?_)
      refine Sx.sv F (Sx.d_extract (v := .bool (Tb.S.has s2 h)) F rfl rfl rfl) (Sx.wanted_none rfl _) rfl (by decide) (fun A F => ?_)
      refine Sx.sv F (Sx.d_move F (Or.inr rfl) rfl) (Sx.wanted_none rfl _) rfl (by decide) (fun A F => ?_)
      refine Sx.sv F (Sx.d_move F (Or.inr rfl) rfl) (Sx.wanted_none rfl _) rfl (by decide) (fun A F => ?_)
      refine Sx.nil ?_
      refine hK18 _ _ ?_
      refine Sx.seq (fun K19 hK19 => ?_)
      have F := Sx.Fr.to F (kv' := [(1, .int .i64 h), (5, .pointer (some ⟨g1, 0, none⟩)), (6, .pointer (some ⟨g2, 0, none⟩)), (27, .slice ada al.length capa), (28, .int .i64 al.length), (29, .int .i64 i), (9, .int .i64 hm), (10, .int .i64 hf), (11, .int .i64 hm), (12, .int .i64 hf), (71, .pointer (some ⟨g1, 0, none⟩)), (72, .int .i64 h), (73, .tuple #[.int .u64 ((Tb.S.val s2 h).toNat), .bool (Tb.S.has s2 h)]), (70, .tuple #[.int .u64 ((Tb.S.val s2 h).toNat), .bool (Tb.S.has s2 h)]), (74, .int .u64 ((Tb.S.val s2 h).toNat)), (75, .bool (Tb.S.has s2 h)), (13, .int .u64 ((Tb.S.val s2 h).toNat)), (14, .bool (Tb.S.has s2 h)), (77, .pointer (some ⟨g2, 0, none⟩)), (78, .int .i64 h), (79, .tuple #[.int .u64 ((Tb.S.val s2 h).toNat), .bool (Tb.S.has s2 h)]), (76, .tuple #[.int .u64 ((Tb.S.val s2 h).toNat), .bool (Tb.S.has s2 h)]), (80, .int .u64 ((Tb.S.val s2 h).toNat)), (81, .bool (Tb.S.has s2 h)), (15, .int .u64 ((Tb.S.val s2 h).toNat)), (16, .bool (Tb.S.has s2 h))]) ⟨rfl, rfl, rfl, rfl, rfl, rfl, rfl, rfl, rfl, rfl, rfl, rfl, rfl, rfl, rfl, rfl, rfl, rfl, rfl, rfl, rfl, rfl, rfl, rfl, rfl, rfl, trivial⟩
      refine Sx.drawn F (by kernel_rfl) (by kernel_rfl) (by kernel_rfl) [some (.int .i64 hm), some (.int .i64 hm), some (.bool false), some (.bool false), some (.int .i64 hf), some (.int .i64 hf), some (.bool false), some (.bool false), some (.bool false), some (.int .u64 ((Tb.S.val s2 h).toNat)), some (.int .u64 ((Tb.S.val s2 h).toNat)), some (.bool false), some (.bool false), some (.bool false), some (.bool (Tb.S.has s2 h)), some (.bool (Tb.S.has s2 h)), some (.bool false), some (.bool false), some (.bool false), some (.pointer (some ⟨g1, 0, none⟩)), some (.int .i64 s2.n), some (.pointer (some ⟨g2, 0, none⟩)), some (.pointer (some ⟨g2, 0, none⟩)), some (.pointer (some ⟨g2, 1, none⟩)), some (.int .i64 s2.n), some (.bool false), some (.bool false), some (.bool false), some (.pointer (some ⟨g1, 0, none⟩)), none, some (.pointer (some ⟨g2, 0, none⟩)), none, some (.bool true), some (.bool false), some (.bool false)] (fun L A w => ∃ v3 : Value, ∃ v4 : Value, (L 29 = true → A.eval (.tmp 111) = v3) ∧ (L 31 = true → A.eval (.tmp 113) = v4) ∧ Sx.Own w0 w [(true, g1, [v', .int .i64 s2.n]), (true, g2, [u', .int .i64 s2.n])] [⟨true, v', 107, 2, s2.l.length, (Tb.cells s2.l)⟩, ⟨true, u', 103, 2, s2.l.length, (Tb.cells s2.l)⟩, ⟨L 29, v3, 3, 1, s2.l.length, (Tb.hs s2.l)⟩, ⟨L 31, v4, 3, 1, s2.l.length, (Tb.hs s2.l)⟩]) ⟨undef, undef, (fun h => by cases h), (fun h => by cases h), H.drew.pad [] rfl [⟨false, undef, 3, 1, s2.l.length, (Tb.hs s2.l)⟩, ⟨false, undef, 3, 1, s2.l.length, (Tb.hs s2.l)⟩] rfl⟩ ?_ ?_
      · refine ⟨?_, ?_, ?_, ?_, ?_, ?_, ?_, ?_, ?_, ?_, ?_, ?_, ?_, ?_, ?_, ?_, ?_, ?_, ?_, ?_, ?_, ?_, ?_, ?_, ?_, ?_, ?_, ?_, ?_, ?_, ?_, ?_, ?_, ?_, ?_, trivial⟩
        · show Sx.StepAt _ _ _ _ _ _ _ 0
          intro L A w up hun hd F ⟨v3, v4, p29, p31, H⟩
          have f2 : L 2 = false := up 2 0 rfl hun
          have f3 : L 3 = false := up 3 2 rfl f2
          have f8 : L 8 = false := up 8 3 rfl f3
          have f13 : L 13 = false := up 13 8 rfl f8
          have f18 : L 18 = false := up 18 13 rfl f13
          have f20 : L 20 = false := up 20 18 rfl f18
          have f27 : L 27 = false := up 27 20 rfl f20
          have f29 : L 29 = false := up 29 27 rfl f27
          have f31 : L 31 = false := up 31 27 rfl f27
          rw [f29, f31] at H
          have F := Sx.Fr.to F (kv' := [(9, .int .i64 hm)]) ⟨rfl, trivial⟩
          refine Sx.step_on rfl (Sx.d_move F (Or.inl rfl) rfl) ?_
          rintro xv w' ⟨hx, rfl⟩
          exact ⟨(fun cv hc => hx.trans (Option.some.inj (Option.some.inj hc))), ⟨v3, v4, (fun h => absurd (show L 29 = true from h) (by rw [f29]; decide)), (fun h => absurd (show L 31 = true from h) (by rw [f31]; decide)), (by show Sx.Own _ _ _ _; rw [show Inv.add L 0 29 = false from f29, show Inv.add L 0 31 = false from f31]; exact H)⟩⟩
        · show Sx.StepAt _ _ _ _ _ _ _ 1
          intro L A w up hun hd F ⟨v3, v4, p29, p31, H⟩
          have f2 : L 2 = false := up 2 1 rfl hun
          have f3 : L 3 = false := up 3 2 rfl f2
          have f8 : L 8 = false := up 8 3 rfl f3
          have f13 : L 13 = false := up 13 8 rfl f8
          have f18 : L 18 = false := up 18 13 rfl f13
          have f20 : L 20 = false := up 20 18 rfl f18
          have f27 : L 27 = false := up 27 20 rfl f20
          have f29 : L 29 = false := up 29 27 rfl f27
          have f31 : L 31 = false := up 31 27 rfl f27
          rw [f29, f31] at H
          have F := Sx.Fr.to F (kv' := [(11, .int .i64 hm)]) ⟨rfl, trivial⟩
          refine Sx.step_on rfl (Sx.d_move F (Or.inl rfl) rfl) ?_
          rintro xv w' ⟨hx, rfl⟩
          exact ⟨(fun cv hc => hx.trans (Option.some.inj (Option.some.inj hc))), ⟨v3, v4, (fun h => absurd (show L 29 = true from h) (by rw [f29]; decide)), (fun h => absurd (show L 31 = true from h) (by rw [f31]; decide)), (by show Sx.Own _ _ _ _; rw [show Inv.add L 1 29 = false from f29, show Inv.add L 1 31 = false from f31]; exact H)⟩⟩
        · show Sx.StepAt _ _ _ _ _ _ _ 2
          intro L A w up hun hd F ⟨v3, v4, p29, p31, H⟩
          have f3 : L 3 = false := up 3 2 rfl hun
          have f8 : L 8 = false := up 8 3 rfl f3
          have f13 : L 13 = false := up 13 8 rfl f8
          have f18 : L 18 = false := up 18 13 rfl f13
          have f20 : L 20 = false := up 20 18 rfl f18
          have f27 : L 27 = false := up 27 20 rfl f20
          have f29 : L 29 = false := up 29 27 rfl f27
          have f31 : L 31 = false := up 31 27 rfl f27
          rw [f29, f31] at H
          have F := Sx.Fr.to F (kv' := [(82, .int .i64 hm), (83, .int .i64 hm)]) ⟨rfl, rfl, trivial⟩
          refine Sx.step_on rfl (Sx.d_bin (v := .bool false) F rfl rfl rfl (Sx.i_ne (by simp))) ?_
          rintro xv w' ⟨hx, rfl⟩
          exact ⟨(fun cv hc => hx.trans (Option.some.inj (Option.some.inj hc))), ⟨v3, v4, (fun h => absurd (show L 29 = true from h) (by rw [f29]; decide)), (fun h => absurd (show L 31 = true from h) (by rw [f31]; decide)), (by show Sx.Own _ _ _ _; rw [show Inv.add L 2 29 = false from f29, show Inv.add L 2 31 = false from f31]; exact H)⟩⟩
        · show Sx.StepAt _ _ _ _ _ _ _ 3
          intro L A w up hun hd F ⟨v3, v4, p29, p31, H⟩
          have f8 : L 8 = false := up 8 3 rfl hun
          have f13 : L 13 = false := up 13 8 rfl f8
          have f18 : L 18 = false := up 18 13 rfl f13
          have f20 : L 20 = false := up 20 18 rfl f18
          have f27 : L 27 = false := up 27 20 rfl f20
          have f29 : L 29 = false := up 29 27 rfl f27
          have f31 : L 31 = false := up 31 27 rfl f27
          rw [f29, f31] at H
          have F := Sx.Fr.to F (kv' := [(84, .bool false)]) ⟨rfl, trivial⟩
          refine Sx.step_on rfl (Sx.d_move F (Or.inl rfl) rfl) ?_
          rintro xv w' ⟨hx, rfl⟩
          exact ⟨(fun cv hc => hx.trans (Option.some.inj (Option.some.inj hc))), ⟨v3, v4, (fun h => absurd (show L 29 = true from h) (by rw [f29]; decide)), (fun h => absurd (show L 31 = true from h) (by rw [f31]; decide)), (by show Sx.Own _ _ _ _; rw [show Inv.add L 3 29 = false from f29, show Inv.add L 3 31 = false from f31]; exact H)⟩⟩
        · show Sx.StepAt _ _ _ _ _ _ _ 4
          intro L A w up hun hd F ⟨v3, v4, p29, p31, H⟩
          have f6 : L 6 = false := up 6 4 rfl hun
          have f7 : L 7 = false := up 7 6 rfl f6
          have f8 : L 8 = false := up 8 7 rfl f7
          have f13 : L 13 = false := up 13 8 rfl f8
          have f18 : L 18 = false := up 18 13 rfl f13
          have f20 : L 20 = false := up 20 18 rfl f18
          have f27 : L 27 = false := up 27 20 rfl f20
          have f29 : L 29 = false := up 29 27 rfl f27
          have f31 : L 31 = false := up 31 27 rfl f27
          rw [f29, f31] at H
          have F := Sx.Fr.to F (kv' := [(10, .int .i64 hf), (85, .bool false)]) ⟨rfl, rfl, trivial⟩
          refine Sx.step_ong rfl (Sx.guard_known (d := 85) (b := false) F rfl rfl) rfl (Sx.d_move F (Or.inl rfl) rfl) ?_
          rintro xv w' ⟨hx, rfl⟩
          exact ⟨(fun cv hc => hx.trans (Option.some.inj (Option.some.inj hc))), ⟨v3, v4, (fun h => absurd (show L 29 = true from h) (by rw [f29]; decide)), (fun h => absurd (show L 31 = true from h) (by rw [f31]; decide)), (by show Sx.Own _ _ _ _; rw [show Inv.add L 4 29 = false from f29, show Inv.add L 4 31 = false from f31]; exact H)⟩⟩
        · show Sx.StepAt _ _ _ _ _ _ _ 5
          intro L A w up hun hd F ⟨v3, v4, p29, p31, H⟩
          have f6 : L 6 = false := up 6 5 rfl hun
          have f7 : L 7 = false := up 7 6 rfl f6
          have f8 : L 8 = false := up 8 7 rfl f7
          have f13 : L 13 = false := up 13 8 rfl f8
          have f18 : L 18 = false := up 18 13 rfl f13
          have f20 : L 20 = false := up 20 18 rfl f18
          have f27 : L 27 = false := up 27 20 rfl f20
          have f29 : L 29 = false := up 29 27 rfl f27
          have f31 : L 31 = false := up 31 27 rfl f27
          rw [f29, f31] at H
          have F := Sx.Fr.to F (kv' := [(12, .int .i64 hf), (85, .bool false)]) ⟨rfl, rfl, trivial⟩
          refine Sx.step_ong rfl (Sx.guard_known (d := 85) (b := false) F rfl rfl) rfl (Sx.d_move F (Or.inl rfl) rfl) ?_
          rintro xv w' ⟨hx, rfl⟩
          exact ⟨(fun cv hc => hx.trans (Option.some.inj (Option.some.inj hc))), ⟨v3, v4, (fun h => absurd (show L 29 = true from h) (by rw [f29]; decide)), (fun h => absurd (show L 31 = true from h) (by rw [f31]; decide)), (by show Sx.Own _ _ _ _; rw [show Inv.add L 5 29 = false from f29, show Inv.add L 5 31 = false from f31]; exact H)⟩⟩
        · show Sx.StepAt _ _ _ _ _ _ _ 6
          intro L A w up hun hd F ⟨v3, v4, p29, p31, H⟩
          have f7 : L 7 = false := up 7 6 rfl hun
          have f8 : L 8 = false := up 8 7 rfl f7
          have f13 : L 13 = false := up 13 8 rfl f8
          have f18 : L 18 = false := up 18 13 rfl f13
          have f20 : L 20 = false := up 20 18 rfl f18
          have f27 : L 27 = false := up 27 20 rfl f20
          have f29 : L 29 = false := up 29 27 rfl f27
          have f31 : L 31 = false := up 31 27 rfl f27
          rw [f29, f31] at H
          have F := Sx.Fr.to F (kv' := [(86, .int .i64 hf), (87, .int .i64 hf), (85, .bool false)]) ⟨rfl, rfl, rfl, trivial⟩
          refine Sx.step_ong rfl (Sx.guard_known (d := 85) (b := false) F rfl rfl) rfl (Sx.d_bin (v := .bool false) F rfl rfl rfl (Sx.i_ne (by simp))) ?_
          rintro xv w' ⟨hx, rfl⟩
          exact ⟨(fun cv hc => hx.trans (Option.some.inj (Option.some.inj hc))), ⟨v3, v4, (fun h => absurd (show L 29 = true from h) (by rw [f29]; decide)), (fun h => absurd (show L 31 = true from h) (by rw [f31]; decide)), (by show Sx.Own _ _ _ _; rw [show Inv.add L 6 29 = false from f29, show Inv.add L 6 31 = false from f31]; exact H)⟩⟩
        · show Sx.StepAt _ _ _ _ _ _ _ 7
          intro L A w up hun hd F ⟨v3, v4, p29, p31, H⟩
          have f8 : L 8 = false := up 8 7 rfl hun
          have f13 : L 13 = false := up 13 8 rfl f8
          have f18 : L 18 = false := up 18 13 rfl f13
          have f20 : L 20 = false := up 20 18 rfl f18
          have f27 : L 27 = false := up 27 20 rfl f20
          have f29 : L 29 = false := up 29 27 rfl f27
          have f31 : L 31 = false := up 31 27 rfl f27
          rw [f29, f31] at H
          have F := Sx.Fr.to F (kv' := [(85, .bool false), (88, .bool false)]) ⟨rfl, rfl, trivial⟩
          refine Sx.step_on rfl (Sx.d_pickF (v := .bool false) F rfl rfl rfl) ?_
          rintro xv w' ⟨hx, rfl⟩
          exact ⟨(fun cv hc => hx.trans (Option.some.inj (Option.some.inj hc))), ⟨v3, v4, (fun h => absurd (show L 29 = true from h) (by rw [f29]; decide)), (fun h => absurd (show L 31 = true from h) (by rw [f31]; decide)), (by show Sx.Own _ _ _ _; rw [show Inv.add L 7 29 = false from f29, show Inv.add L 7 31 = false from f31]; exact H)⟩⟩
        · show Sx.StepAt _ _ _ _ _ _ _ 8
          intro L A w up hun hd F ⟨v3, v4, p29, p31, H⟩
          have f13 : L 13 = false := up 13 8 rfl hun
          have f18 : L 18 = false := up 18 13 rfl f13
          have f20 : L 20 = false := up 20 18 rfl f18
          have f27 : L 27 = false := up 27 20 rfl f20
          have f29 : L 29 = false := up 29 27 rfl f27
          have f31 : L 31 = false := up 31 27 rfl f27
          rw [f29, f31] at H
          have F := Sx.Fr.to F (kv' := [(89, .bool false)]) ⟨rfl, trivial⟩
          refine Sx.step_on rfl (Sx.d_move F (Or.inl rfl) rfl) ?_
          rintro xv w' ⟨hx, rfl⟩
          exact ⟨(fun cv hc => hx.trans (Option.some.inj (Option.some.inj hc))), ⟨v3, v4, (fun h => absurd (show L 29 = true from h) (by rw [f29]; decide)), (fun h => absurd (show L 31 = true from h) (by rw [f31]; decide)), (by show Sx.Own _ _ _ _; rw [show Inv.add L 8 29 = false from f29, show Inv.add L 8 31 = false from f31]; exact H)⟩⟩
        · show Sx.StepAt _ _ _ _ _ _ _ 9
          intro L A w up hun hd F ⟨v3, v4, p29, p31, H⟩
          have f11 : L 11 = false := up 11 9 rfl hun
          have f12 : L 12 = false := up 12 11 rfl f11
          have f13 : L 13 = false := up 13 12 rfl f12
          have f18 : L 18 = false := up 18 13 rfl f13
          have f20 : L 20 = false := up 20 18 rfl f18
          have f27 : L 27 = false := up 27 20 rfl f20
          have f29 : L 29 = false := up 29 27 rfl f27
          have f31 : L 31 = false := up 31 27 rfl f27
          rw [f29, f31] at H
          have F := Sx.Fr.to F (kv' := [(13, .int .u64 ((Tb.S.val s2 h).toNat)), (90, .bool false)]) ⟨rfl, rfl, trivial⟩
          refine Sx.step_ong rfl (Sx.guard_known (d := 90) (b := false) F rfl rfl) rfl (Sx.d_move F (Or.inl rfl) rfl) ?_
          rintro xv w' ⟨hx, rfl⟩
          exact ⟨(fun cv hc => hx.trans (Option.some.inj (Option.some.inj hc))), ⟨v3, v4, (fun h => absurd (show L 29 = true from h) (by rw [f29]; decide)), (fun h => absurd (show L 31 = true from h) (by rw [f31]; decide)), (by show Sx.Own _ _ _ _; rw [show Inv.add L 9 29 = false from f29, show Inv.add L 9 31 = false from f31]; exact H)⟩⟩
        · show Sx.StepAt _ _ _ _ _ _ _ 10
          intro L A w up hun hd F ⟨v3, v4, p29, p31, H⟩
          have f11 : L 11 = false := up 11 10 rfl hun
          have f12 : L 12 = false := up 12 11 rfl f11
          have f13 : L 13 = false := up 13 12 rfl f12
          have f18 : L 18 = false := up 18 13 rfl f13
          have f20 : L 20 = false := up 20 18 rfl f18
          have f27 : L 27 = false := up 27 20 rfl f20
          have f29 : L 29 = false := up 29 27 rfl f27
          have f31 : L 31 = false := up 31 27 rfl f27
          rw [f29, f31] at H
          have F := Sx.Fr.to F (kv' := [(15, .int .u64 ((Tb.S.val s2 h).toNat)), (90, .bool false)]) ⟨rfl, rfl, trivial⟩
          refine Sx.step_ong rfl (Sx.guard_known (d := 90) (b := false) F rfl rfl) rfl (Sx.d_move F (Or.inl rfl) rfl) ?_
          rintro xv w' ⟨hx, rfl⟩
          exact ⟨(fun cv hc => hx.trans (Option.some.inj (Option.some.inj hc))), ⟨v3, v4, (fun h => absurd (show L 29 = true from h) (by rw [f29]; decide)), (fun h => absurd (show L 31 = true from h) (by rw [f31]; decide)), (by show Sx.Own _ _ _ _; rw [show Inv.add L 10 29 = false from f29, show Inv.add L 10 31 = false from f31]; exact H)⟩⟩
        · show Sx.StepAt _ _ _ _ _ _ _ 11
          intro L A w up hun hd F ⟨v3, v4, p29, p31, H⟩
          have f12 : L 12 = false := up 12 11 rfl hun
          have f13 : L 13 = false := up 13 12 rfl f12
          have f18 : L 18 = false := up 18 13 rfl f13
          have f20 : L 20 = false := up 20 18 rfl f18
          have f27 : L 27 = false := up 27 20 rfl f20
          have f29 : L 29 = false := up 29 27 rfl f27
          have f31 : L 31 = false := up 31 27 rfl f27
          rw [f29, f31] at H
          have F := Sx.Fr.to F (kv' := [(91, .int .u64 ((Tb.S.val s2 h).toNat)), (92, .int .u64 ((Tb.S.val s2 h).toNat)), (90, .bool false)]) ⟨rfl, rfl, rfl, trivial⟩
          refine Sx.step_ong rfl (Sx.guard_known (d := 90) (b := false) F rfl rfl) rfl (Sx.d_bin (v := .bool false) F rfl rfl rfl (Sx.i_ne (by simp))) ?_
          rintro xv w' ⟨hx, rfl⟩
          exact ⟨(fun cv hc => hx.trans (Option.some.inj (Option.some.inj hc))), ⟨v3, v4, (fun h => absurd (show L 29 = true from h) (by rw [f29]; decide)), (fun h => absurd (show L 31 = true from h) (by rw [f31]; decide)), (by show Sx.Own _ _ _ _; rw [show Inv.add L 11 29 = false from f29, show Inv.add L 11 31 = false from f31]; exact H)⟩⟩
        · show Sx.StepAt _ _ _ _ _ _ _ 12
          intro L A w up hun hd F ⟨v3, v4, p29, p31, H⟩
          have f13 : L 13 = false := up 13 12 rfl hun
          have f18 : L 18 = false := up 18 13 rfl f13
          have f20 : L 20 = false := up 20 18 rfl f18
          have f27 : L 27 = false := up 27 20 rfl f20
          have f29 : L 29 = false := up 29 27 rfl f27
          have f31 : L 31 = false := up 31 27 rfl f27
          rw [f29, f31] at H
          have F := Sx.Fr.to F (kv' := [(90, .bool false), (93, .bool false)]) ⟨rfl, rfl, trivial⟩
          refine Sx.step_on rfl (Sx.d_pickF (v := .bool false) F rfl rfl rfl) ?_
          rintro xv w' ⟨hx, rfl⟩
          exact ⟨(fun cv hc => hx.trans (Option.some.inj (Option.some.inj hc))), ⟨v3, v4, (fun h => absurd (show L 29 = true from h) (by rw [f29]; decide)), (fun h => absurd (show L 31 = true from h) (by rw [f31]; decide)), (by show Sx.Own _ _ _ _; rw [show Inv.add L 12 29 = false from f29, show Inv.add L 12 31 = false from f31]; exact H)⟩⟩
        · show Sx.StepAt _ _ _ _ _ _ _ 13
          intro L A w up hun hd F ⟨v3, v4, p29, p31, H⟩
          have f18 : L 18 = false := up 18 13 rfl hun
          have f20 : L 20 = false := up 20 18 rfl f18
          have f27 : L 27 = false := up 27 20 rfl f20
          have f29 : L 29 = false := up 29 27 rfl f27
          have f31 : L 31 = false := up 31 27 rfl f27
          rw [f29, f31] at H
          have F := Sx.Fr.to F (kv' := [(94, .bool false)]) ⟨rfl, trivial⟩
          refine Sx.step_on rfl (Sx.d_move F (Or.inl rfl) rfl) ?_
          rintro xv w' ⟨hx, rfl⟩
          exact ⟨(fun cv hc => hx.trans (Option.some.inj (Option.some.inj hc))), ⟨v3, v4, (fun h => absurd (show L 29 = true from h) (by rw [f29]; decide)), (fun h => absurd (show L 31 = true from h) (by rw [f31]; decide)), (by show Sx.Own _ _ _ _; rw [show Inv.add L 13 29 = false from f29, show Inv.add L 13 31 = false from f31]; exact H)⟩⟩
        · show Sx.StepAt _ _ _ _ _ _ _ 14
          intro L A w up hun hd F ⟨v3, v4, p29, p31, H⟩
          have f16 : L 16 = false := up 16 14 rfl hun
          have f17 : L 17 = false := up 17 16 rfl f16
          have f18 : L 18 = false := up 18 17 rfl f17
          have f20 : L 20 = false := up 20 18 rfl f18
          have f27 : L 27 = false := up 27 20 rfl f20
          have f29 : L 29 = false := up 29 27 rfl f27
          have f31 : L 31 = false := up 31 27 rfl f27
          rw [f29, f31] at H
          have F := Sx.Fr.to F (kv' := [(14, .bool (Tb.S.has s2 h)), (95, .bool false)]) ⟨rfl, rfl, trivial⟩
          refine Sx.step_ong rfl (Sx.guard_known (d := 95) (b := false) F rfl rfl) rfl (Sx.d_move F (Or.inl rfl) rfl) ?_
          rintro xv w' ⟨hx, rfl⟩
          exact ⟨(fun cv hc => hx.trans (Option.some.inj (Option.some.inj hc))), ⟨v3, v4, (fun h => absurd (show L 29 = true from h) (by rw [f29]; decide)), (fun h => absurd (show L 31 = true from h) (by rw [f31]; decide)), (by show Sx.Own _ _ _ _; rw [show Inv.add L 14 29 = false from f29, show Inv.add L 14 31 = false from f31]; exact H)⟩⟩
        · show Sx.StepAt _ _ _ _ _ _ _ 15
          intro L A w up hun hd F ⟨v3, v4, p29, p31, H⟩
          have f16 : L 16 = false := up 16 15 rfl hun
          have f17 : L 17 = false := up 17 16 rfl f16
          have f18 : L 18 = false := up 18 17 rfl f17
          have f20 : L 20 = false := up 20 18 rfl f18
          have f27 : L 27 = false := up 27 20 rfl f20
          have f29 : L 29 = false := up 29 27 rfl f27
          have f31 : L 31 = false := up 31 27 rfl f27
          rw [f29, f31] at H
          have F := Sx.Fr.to F (kv' := [(16, .bool (Tb.S.has s2 h)), (95, .bool false)]) ⟨rfl, rfl, trivial⟩
          refine Sx.step_ong rfl (Sx.guard_known (d := 95) (b := false) F rfl rfl) rfl (Sx.d_move F (Or.inl rfl) rfl) ?_
          rintro xv w' ⟨hx, rfl⟩
          exact ⟨(fun cv hc => hx.trans (Option.some.inj (Option.some.inj hc))), ⟨v3, v4, (fun h => absurd (show L 29 = true from h) (by rw [f29]; decide)), (fun h => absurd (show L 31 = true from h) (by rw [f31]; decide)), (by show Sx.Own _ _ _ _; rw [show Inv.add L 15 29 = false from f29, show Inv.add L 15 31 = false from f31]; exact H)⟩⟩
        · show Sx.StepAt _ _ _ _ _ _ _ 16
          intro L A w up hun hd F ⟨v3, v4, p29, p31, H⟩
          have f17 : L 17 = false := up 17 16 rfl hun
          have f18 : L 18 = false := up 18 17 rfl f17
          have f20 : L 20 = false := up 20 18 rfl f18
          have f27 : L 27 = false := up 27 20 rfl f20
          have f29 : L 29 = false := up 29 27 rfl f27
          have f31 : L 31 = false := up 31 27 rfl f27
          rw [f29, f31] at H
          have F := Sx.Fr.to F (kv' := [(96, .bool (Tb.S.has s2 h)), (97, .bool (Tb.S.has s2 h)), (95, .bool false)]) ⟨rfl, rfl, rfl, trivial⟩
          refine Sx.step_ong rfl (Sx.guard_known (d := 95) (b := false) F rfl rfl) rfl (Sx.d_bin (v := .bool false) F rfl rfl rfl (Sx.b_ne (by simp))) ?_
          rintro xv w' ⟨hx, rfl⟩
          exact ⟨(fun cv hc => hx.trans (Option.some.inj (Option.some.inj hc))), ⟨v3, v4, (fun h => absurd (show L 29 = true from h) (by rw [f29]; decide)), (fun h => absurd (show L 31 = true from h) (by rw [f31]; decide)), (by show Sx.Own _ _ _ _; rw [show Inv.add L 16 29 = false from f29, show Inv.add L 16 31 = false from f31]; exact H)⟩⟩
        · show Sx.StepAt _ _ _ _ _ _ _ 17
          intro L A w up hun hd F ⟨v3, v4, p29, p31, H⟩
          have f18 : L 18 = false := up 18 17 rfl hun
          have f20 : L 20 = false := up 20 18 rfl f18
          have f27 : L 27 = false := up 27 20 rfl f20
          have f29 : L 29 = false := up 29 27 rfl f27
          have f31 : L 31 = false := up 31 27 rfl f27
          rw [f29, f31] at H
          have F := Sx.Fr.to F (kv' := [(95, .bool false), (98, .bool false)]) ⟨rfl, rfl, trivial⟩
          refine Sx.step_on rfl (Sx.d_pickF (v := .bool false) F rfl rfl rfl) ?_
          rintro xv w' ⟨hx, rfl⟩
          exact ⟨(fun cv hc => hx.trans (Option.some.inj (Option.some.inj hc))), ⟨v3, v4, (fun h => absurd (show L 29 = true from h) (by rw [f29]; decide)), (fun h => absurd (show L 31 = true from h) (by rw [f31]; decide)), (by show Sx.Own _ _ _ _; rw [show Inv.add L 17 29 = false from f29, show Inv.add L 17 31 = false from f31]; exact H)⟩⟩
        · show Sx.StepAt _ _ _ _ _ _ _ 18
          intro L A w up hun hd F ⟨v3, v4, p29, p31, H⟩
          have f20 : L 20 = false := up 20 18 rfl hun
          have f27 : L 27 = false := up 27 20 rfl f20
          have f29 : L 29 = false := up 29 27 rfl f27
          have f31 : L 31 = false := up 31 27 rfl f27
          rw [f29, f31] at H
          have F := Sx.Fr.to F (kv' := [(99, .bool false)]) ⟨rfl, trivial⟩
          refine Sx.step_on rfl (Sx.d_move F (Or.inl rfl) rfl) ?_
          rintro xv w' ⟨hx, rfl⟩
          exact ⟨(fun cv hc => hx.trans (Option.some.inj (Option.some.inj hc))), ⟨v3, v4, (fun h => absurd (show L 29 = true from h) (by rw [f29]; decide)), (fun h => absurd (show L 31 = true from h) (by rw [f31]; decide)), (by show Sx.Own _ _ _ _; rw [show Inv.add L 18 29 = false from f29, show Inv.add L 18 31 = false from f31]; exact H)⟩⟩
        · show Sx.StepAt _ _ _ _ _ _ _ 19
          intro L A w up hun hd F ⟨v3, v4, p29, p31, H⟩
          have f20 : L 20 = false := up 20 19 rfl hun
          have f27 : L 27 = false := up 27 20 rfl f20
          have f29 : L 29 = false := up 29 27 rfl f27
          have f31 : L 31 = false := up 31 27 rfl f27
          rw [f29, f31] at H
          have F := Sx.Fr.to F (kv' := [(5, .pointer (some ⟨g1, 0, none⟩)), (100, .bool false)]) ⟨rfl, rfl, trivial⟩
          refine Sx.step_ong rfl (Sx.guard_known (d := 100) (b := false) F rfl rfl) rfl (Sx.d_move F (Or.inl rfl) rfl) ?_
          rintro xv w' ⟨hx, rfl⟩
          exact ⟨(fun cv hc => hx.trans (Option.some.inj (Option.some.inj hc))), ⟨v3, v4, (fun h => absurd (show L 29 = true from h) (by rw [f29]; decide)), (fun h => absurd (show L 31 = true from h) (by rw [f31]; decide)), (by show Sx.Own _ _ _ _; rw [show Inv.add L 19 29 = false from f29, show Inv.add L 19 31 = false from f31]; exact H)⟩⟩
        · show Sx.StepAt _ _ _ _ _ _ _ 20
          intro L A w up hun hd F ⟨v3, v4, p29, p31, H⟩
          have f27 : L 27 = false := up 27 20 rfl hun
          have f29 : L 29 = false := up 29 27 rfl f27
          have f31 : L 31 = false := up 31 27 rfl f27
          rw [f29, f31] at H
          have F := Sx.Fr.to F (kv' := [(101, .pointer (some ⟨g1, 0, none⟩)), (100, .bool false)]) ⟨rfl, rfl, trivial⟩
          refine Sx.step_ong rfl (Sx.guard_known (d := 100) (b := false) F rfl rfl) rfl (Sx.d_call (vs := [.pointer (some ⟨g1, 0, none⟩)]) (v := .int .i64 s2.n) if_45 F H rfl rfl (tnext0_c s2 hok2 _ _ (Tb.See.own (i := 0) (j := 0) H rfl rfl))) ?_
          rintro xv w' ⟨hx, H⟩
          exact ⟨(fun cv hc => hx.trans (Option.some.inj (Option.some.inj hc))), ⟨v3, v4, (fun h => absurd (show L 29 = true from h) (by rw [f29]; decide)), (fun h => absurd (show L 31 = true from h) (by rw [f31]; decide)), (by show Sx.Own _ _ _ _; rw [show Inv.add L 20 29 = false from f29, show Inv.add L 20 31 = false from f31]; exact H)⟩⟩
        · show Sx.StepAt _ _ _ _ _ _ _ 21
          intro L A w up hun hd F ⟨v3, v4, p29, p31, H⟩
          have f22 : L 22 = false := up 22 21 rfl hun
          have f23 : L 23 = false := up 23 22 rfl f22
          have f24 : L 24 = false := up 24 23 rfl f23
          have f25 : L 25 = false := up 25 24 rfl f24
          have f26 : L 26 = false := up 26 25 rfl f25
          have f27 : L 27 = false := up 27 26 rfl f26
          have f29 : L 29 = false := up 29 27 rfl f27
          have f31 : L 31 = false := up 31 27 rfl f27
          rw [f29, f31] at H
          have F := Sx.Fr.to F (kv' := [(6, .pointer (some ⟨g2, 0, none⟩)), (100, .bool false)]) ⟨rfl, rfl, trivial⟩
          refine Sx.step_ong rfl (Sx.guard_known (d := 100) (b := false) F rfl rfl) rfl (Sx.d_move F (Or.inl rfl) rfl) ?_
          rintro xv w' ⟨hx, rfl⟩
          exact ⟨(fun cv hc => hx.trans (Option.some.inj (Option.some.inj hc))), ⟨v3, v4, (fun h => absurd (show L 29 = true from h) (by rw [f29]; decide)), (fun h => absurd (show L 31 = true from h) (by rw [f31]; decide)), (by show Sx.Own _ _ _ _; rw [show Inv.add L 21 29 = false from f29, show Inv.add L 21 31 = false from f31]; exact H)⟩⟩
        · show Sx.StepAt _ _ _ _ _ _ _ 22
          intro L A w up hun hd F ⟨v3, v4, p29, p31, H⟩
          have f23 : L 23 = false := up 23 22 rfl hun
          have f24 : L 24 = false := up 24 23 rfl f23
          have f25 : L 25 = false := up 25 24 rfl f24
          have f26 : L 26 = false := up 26 25 rfl f25
          have f27 : L 27 = false := up 27 26 rfl f26
          have f29 : L 29 = false := up 29 27 rfl f27
          have f31 : L 31 = false := up 31 27 rfl f27
          rw [f29, f31] at H
          have F := Sx.Fr.to F (kv' := [(103, .pointer (some ⟨g2, 0, none⟩)), (100, .bool false)]) ⟨rfl, rfl, trivial⟩
          refine Sx.step_ong rfl (Sx.guard_known (d := 100) (b := false) F rfl rfl) rfl (Sx.d_nil F rfl rfl) ?_
          rintro xv w' ⟨hx, rfl⟩
          exact ⟨(fun cv hc => hx.trans (Option.some.inj (Option.some.inj hc))), ⟨v3, v4, (fun h => absurd (show L 29 = true from h) (by rw [f29]; decide)), (fun h => absurd (show L 31 = true from h) (by rw [f31]; decide)), (by show Sx.Own _ _ _ _; rw [show Inv.add L 22 29 = false from f29, show Inv.add L 22 31 = false from f31]; exact H)⟩⟩
        · show Sx.StepAt _ _ _ _ _ _ _ 23
          intro L A w up hun hd F ⟨v3, v4, p29, p31, H⟩
          have f24 : L 24 = false := up 24 23 rfl hun
          have f25 : L 25 = false := up 25 24 rfl f24
          have f26 : L 26 = false := up 26 25 rfl f25
          have f27 : L 27 = false := up 27 26 rfl f26
          have f29 : L 29 = false := up 29 27 rfl f27
          have f31 : L 31 = false := up 31 27 rfl f27
          rw [f29, f31] at H
          have F := Sx.Fr.to F (kv' := [(104, .pointer (some ⟨g2, 0, none⟩)), (100, .bool false)]) ⟨rfl, rfl, trivial⟩
          refine Sx.step_ong rfl (Sx.guard_known (d := 100) (b := false) F rfl rfl) rfl (Sx.d_faddr (v := .pointer (some ⟨g2, 1, none⟩)) F rfl rfl (fa_64_1 _ 0 _)) ?_
          rintro xv w' ⟨hx, rfl⟩
          exact ⟨(fun cv hc => hx.trans (Option.some.inj (Option.some.inj hc))), ⟨v3, v4, (fun h => absurd (show L 29 = true from h) (by rw [f29]; decide)), (fun h => absurd (show L 31 = true from h) (by rw [f31]; decide)), (by show Sx.Own _ _ _ _; rw [show Inv.add L 23 29 = false from f29, show Inv.add L 23 31 = false from f31]; exact H)⟩⟩
        · show Sx.StepAt _ _ _ _ _ _ _ 24
          intro L A w up hun hd F ⟨v3, v4, p29, p31, H⟩
          have f25 : L 25 = false := up 25 24 rfl hun
          have f26 : L 26 = false := up 26 25 rfl f25
          have f27 : L 27 = false := up 27 26 rfl f26
          have f29 : L 29 = false := up 29 27 rfl f27
          have f31 : L 31 = false := up 31 27 rfl f27
          rw [f29, f31] at H
          have F := Sx.Fr.to F (kv' := [(105, .pointer (some ⟨g2, 1, none⟩)), (100, .bool false)]) ⟨rfl, rfl, trivial⟩
          refine Sx.step_ong rfl (Sx.guard_known (d := 100) (b := false) F rfl rfl) rfl (Sx.d_load1 (i := 1) (v := .int .i64 s2.n) one_3 F H rfl rfl rfl rfl) ?_
          rintro xv w' ⟨hx, rfl⟩
          exact ⟨(fun cv hc => hx.trans (Option.some.inj (Option.some.inj hc))), ⟨v3, v4, (fun h => absurd (show L 29 = true from h) (by rw [f29]; decide)), (fun h => absurd (show L 31 = true from h) (by rw [f31]; decide)), (by show Sx.Own _ _ _ _; rw [show Inv.add L 24 29 = false from f29, show Inv.add L 24 31 = false from f31]; exact H)⟩⟩
        · show Sx.StepAt _ _ _ _ _ _ _ 25
          intro L A w up hun hd F ⟨v3, v4, p29, p31, H⟩
          have f26 : L 26 = false := up 26 25 rfl hun
          have f27 : L 27 = false := up 27 26 rfl f26
          have f29 : L 29 = false := up 29 27 rfl f27
          have f31 : L 31 = false := up 31 27 rfl f27
          rw [f29, f31] at H
          have F := Sx.Fr.to F (kv' := [(102, .int .i64 s2.n), (106, .int .i64 s2.n), (100, .bool false)]) ⟨rfl, rfl, rfl, trivial⟩
          refine Sx.step_ong rfl (Sx.guard_known (d := 100) (b := false) F rfl rfl) rfl (Sx.d_bin (v := .bool false) F rfl rfl rfl (Sx.i_ne (by simp))) ?_
          rintro xv w' ⟨hx, rfl⟩
          exact ⟨(fun cv hc => hx.trans (Option.some.inj (Option.some.inj hc))), ⟨v3, v4, (fun h => absurd (show L 29 = true from h) (by rw [f29]; decide)), (fun h => absurd (show L 31 = true from h) (by rw [f31]; decide)), (by show Sx.Own _ _ _ _; rw [show Inv.add L 25 29 = false from f29, show Inv.add L 25 31 = false from f31]; exact H)⟩⟩
        · show Sx.StepAt _ _ _ _ _ _ _ 26
          intro L A w up hun hd F ⟨v3, v4, p29, p31, H⟩
          have f27 : L 27 = false := up 27 26 rfl hun
          have f29 : L 29 = false := up 29 27 rfl f27
          have f31 : L 31 = false := up 31 27 rfl f27
          rw [f29, f31] at H
          have F := Sx.Fr.to F (kv' := [(100, .bool false), (107, .bool false)]) ⟨rfl, rfl, trivial⟩
          refine Sx.step_on rfl (Sx.d_pickF (v := .bool false) F rfl rfl rfl) ?_
          rintro xv w' ⟨hx, rfl⟩
          exact ⟨(fun cv hc => hx.trans (Option.some.inj (Option.some.inj hc))), ⟨v3, v4, (fun h => absurd (show L 29 = true from h) (by rw [f29]; decide)), (fun h => absurd (show L 31 = true from h) (by rw [f31]; decide)), (by show Sx.Own _ _ _ _; rw [show Inv.add L 26 29 = false from f29, show Inv.add L 26 31 = false from f31]; exact H)⟩⟩
        · show Sx.StepAt _ _ _ _ _ _ _ 27
          intro L A w up hun hd F ⟨v3, v4, p29, p31, H⟩
          have f29 : L 29 = false := up 29 27 rfl hun
          have f31 : L 31 = false := up 31 27 rfl hun
          rw [f29, f31] at H
          have F := Sx.Fr.to F (kv' := [(108, .bool false)]) ⟨rfl, trivial⟩
          refine Sx.step_on rfl (Sx.d_move F (Or.inl rfl) rfl) ?_
          rintro xv w' ⟨hx, rfl⟩
          exact ⟨(fun cv hc => hx.trans (Option.some.inj (Option.some.inj hc))), ⟨v3, v4, (fun h => absurd (show L 29 = true from h) (by rw [f29]; decide)), (fun h => absurd (show L 31 = true from h) (by rw [f31]; decide)), (by show Sx.Own _ _ _ _; rw [show Inv.add L 27 29 = false from f29, show Inv.add L 27 31 = false from f31]; exact H)⟩⟩
        · show Sx.StepAt _ _ _ _ _ _ _ 28
          intro L A w up hun hd F ⟨v3, v4, p29, p31, H⟩
          have f29 : L 29 = false := up 29 28 rfl hun
          have f31 : L 31 = false := up 31 29 rfl f29
          rw [f29, f31] at H
          have F := Sx.Fr.to F (kv' := [(5, .pointer (some ⟨g1, 0, none⟩)), (109, .bool false)]) ⟨rfl, rfl, trivial⟩
          refine Sx.step_ong rfl (Sx.guard_known (d := 109) (b := false) F rfl rfl) rfl (Sx.d_move F (Or.inl rfl) rfl) ?_
          rintro xv w' ⟨hx, rfl⟩
          exact ⟨(fun cv hc => hx.trans (Option.some.inj (Option.some.inj hc))), ⟨v3, v4, (fun h => absurd (show L 29 = true from h) (by rw [f29]; decide)), (fun h => absurd (show L 31 = true from h) (by rw [f31]; decide)), (by show Sx.Own _ _ _ _; rw [show Inv.add L 28 29 = false from f29, show Inv.add L 28 31 = false from f31]; exact H)⟩⟩
        · show Sx.StepAt _ _ _ _ _ _ _ 29
          intro L A w up hun hd F ⟨v3, v4, p29, p31, H⟩
          have f29 : L 29 = false := hun
          have f31 : L 31 = false := up 31 29 rfl hun
          rw [f29, f31] at H
          have F := Sx.Fr.to F (kv' := [(110, .pointer (some ⟨g1, 0, none⟩)), (109, .bool false)]) ⟨rfl, rfl, trivial⟩
          refine Sx.step_ong rfl (Sx.guard_known (d := 109) (b := false) F rfl rfl) rfl (Sx.d_callR_at 2 (vs := [.pointer (some ⟨g1, 0, none⟩)]) (mk := fun v => v) if_47 F H rfl rfl (thandles_c s2 hok2 _ _ (Tb.See.own (i := 0) (j := 0) H rfl rfl))) ?_
          rintro xv w' ⟨v', hx, H⟩
          exact ⟨(fun cv hc => by have h := Option.some.inj hc; cases h), ⟨v', v4, (fun _ => (Sx.put_same F (by decide) _).trans hx), (fun h => absurd (show L 31 = true from h) (by rw [f31]; decide)), (by show Sx.Own _ _ _ _; rw [show Inv.add L 29 31 = false from f31]; exact H)⟩⟩
        · show Sx.StepAt _ _ _ _ _ _ _ 30
          intro L A w up hun hd F ⟨v3, v4, p29, p31, H⟩
          have f31 : L 31 = false := up 31 30 rfl hun
          rw [f31] at H
          have F := Sx.Fr.to F (kv' := [(6, .pointer (some ⟨g2, 0, none⟩)), (109, .bool false)]) ⟨rfl, rfl, trivial⟩
          refine Sx.step_ong rfl (Sx.guard_known (d := 109) (b := false) F rfl rfl) rfl (Sx.d_move F (Or.inl rfl) rfl) ?_
          rintro xv w' ⟨hx, rfl⟩
          exact ⟨(fun cv hc => hx.trans (Option.some.inj (Option.some.inj hc))), ⟨v3, v4, (fun h => (Sx.put_ne rfl _).trans (p29 h)), (fun h => absurd (show L 31 = true from h) (by rw [f31]; decide)), (by show Sx.Own _ _ _ _; rw [show Inv.add L 30 31 = false from f31]; exact H)⟩⟩
        · show Sx.StepAt _ _ _ _ _ _ _ 31
          intro L A w up hun hd F ⟨v3, v4, p29, p31, H⟩
          have t29 : L 29 = true := hd 29 rfl
          have f31 : L 31 = false := hun
          rw [t29, f31] at H
          have F := Sx.Fr.to F (kv' := [(112, .pointer (some ⟨g2, 0, none⟩)), (109, .bool false)]) ⟨rfl, rfl, trivial⟩
          have F := Sx.Fr.add F (p29 t29)
          refine Sx.step_ong rfl (Sx.guard_known (d := 109) (b := false) F rfl rfl) rfl (Sx.d_callR_at 3 (vs := [.pointer (some ⟨g2, 0, none⟩)]) (mk := fun v => v) if_48 F H rfl rfl (rthandles_c s2 hok2 _ _ (Tb.See.own (i := 1) (j := 1) H rfl rfl))) ?_
          rintro xv w' ⟨v', hx, H⟩
          exact ⟨(fun cv hc => by have h := Option.some.inj hc; cases h), ⟨v3, v', (fun h => (Sx.put_ne rfl _).trans (p29 h)), (fun _ => (Sx.put_same F (by decide) _).trans hx), (by show Sx.Own _ _ _ _; rw [show Inv.add L 31 29 = true from t29]; exact H)⟩⟩
        · show Sx.StepAt _ _ _ _ _ _ _ 32
          intro L A w up hun hd F ⟨v3, v4, p29, p31, H⟩
          have t29 : L 29 = true := hd 29 rfl
          have t31 : L 31 = true := hd 31 rfl
          rw [t29, t31] at H
          have F := Sx.Fr.to F (kv' := [(109, .bool false)]) ⟨rfl, trivial⟩
          have F := Sx.Fr.add F (p29 t29)
          have F := Sx.Fr.add F (p31 t31)
          refine Sx.step_ong rfl (Sx.guard_known (d := 109) (b := false) F rfl rfl) rfl (Sx.d_call (vs := [v3, v4]) (v := .bool true) if_46 F H rfl rfl (ints_c (s2.l.map (·.1)) _ _ _ (Tb.RdI.row (H.row 2 _ rfl rfl) (Tb.hs_iv _) (by rw [List.length_map]; have := hok2.few; omega)) (Tb.RdI.row (H.row 3 _ rfl rfl) (Tb.hs_iv _) (by rw [List.length_map]; have := hok2.few; omega)))) ?_
          rintro xv w' ⟨hx, H⟩
          exact ⟨(fun cv hc => hx.trans (Option.some.inj (Option.some.inj hc))), ⟨v3, v4, (fun h => (Sx.put_ne rfl _).trans (p29 h)), (fun h => (Sx.put_ne rfl _).trans (p31 h)), (by show Sx.Own _ _ _ _; rw [show Inv.add L 32 29 = true from t29, show Inv.add L 32 31 = true from t31]; exact H)⟩⟩
        · show Sx.StepAt _ _ _ _ _ _ _ 33
          intro L A w up hun hd F ⟨v3, v4, p29, p31, H⟩
          have t29 : L 29 = true := by
            cases hb : L 29 with
            | true => rfl
            | false =>
              have hb32 := up 32 29 rfl hb
              rw [hd 32 rfl] at hb32; cases hb32
          have t31 : L 31 = true := by
            cases hb : L 31 with
            | true => rfl
            | false =>
              have hb32 := up 32 31 rfl hb
              rw [hd 32 rfl] at hb32; cases hb32
          rw [t29, t31] at H
          have F := Sx.Fr.to F (kv' := [(114, .bool true), (109, .bool false)]) ⟨rfl, rfl, trivial⟩
          have F := Sx.Fr.add F (p29 t29)
          have F := Sx.Fr.add F (p31 t31)
          refine Sx.step_ong rfl (Sx.guard_known (d := 109) (b := false) F rfl rfl) rfl (Sx.d_un (v := .bool false) F rfl rfl rfl) ?_
          rintro xv w' ⟨hx, rfl⟩
          exact ⟨(fun cv hc => hx.trans (Option.some.inj (Option.some.inj hc))), ⟨v3, v4, (fun h => (Sx.put_ne rfl _).trans (p29 h)), (fun h => (Sx.put_ne rfl _).trans (p31 h)), (by show Sx.Own _ _ _ _; rw [show Inv.add L 33 29 = true from t29, show Inv.add L 33 31 = true from t31]; exact H)⟩⟩
        · show Sx.StepAt _ _ _ _ _ _ _ 34
          intro L A w up hun hd F ⟨v3, v4, p29, p31, H⟩
          have t29 : L 29 = true := by
            cases hb : L 29 with
            | true => rfl
            | false =>
              have hb32 := up 32 29 rfl hb
              have hb33 := up 33 32 rfl hb32
              rw [hd 33 rfl] at hb33; cases hb33
          have t31 : L 31 = true := by
            cases hb : L 31 with
            | true => rfl
            | false =>
              have hb32 := up 32 31 rfl hb
              have hb33 := up 33 32 rfl hb32
              rw [hd 33 rfl] at hb33; cases hb33
          rw [t29, t31] at H
          have F := Sx.Fr.to F (kv' := [(109, .bool false), (115, .bool false)]) ⟨rfl, rfl, trivial⟩
          have F := Sx.Fr.add F (p29 t29)
          have F := Sx.Fr.add F (p31 t31)
          refine Sx.step_on rfl (Sx.d_pickF (v := .bool false) F rfl rfl rfl) ?_
          rintro xv w' ⟨hx, rfl⟩
          exact ⟨(fun cv hc => hx.trans (Option.some.inj (Option.some.inj hc))), ⟨v3, v4, (fun h => (Sx.put_ne rfl _).trans (p29 h)), (fun h => (Sx.put_ne rfl _).trans (p31 h)), (by show Sx.Own _ _ _ _; rw [show Inv.add L 34 29 = true from t29, show Inv.add L 34 31 = true from t31]; exact H)⟩⟩
      · intro L A w hL F ⟨v3, v4, p29, p31, H⟩
        have t29 : L 29 = true := hL 29 rfl
        have t31 : L 31 = true := hL 31 rfl
        rw [t29, t31] at H
        have F := Sx.Fr.add F (p29 t29)
        have F := Sx.Fr.add F (p31 t31)
        have F := Sx.Fr.to F (kv' := [(1, .int .i64 h), (5, .pointer (some ⟨g1, 0, none⟩)), (6, .pointer (some ⟨g2, 0, none⟩)), (27, .slice ada al.length capa), (28, .int .i64 al.length), (29, .int .i64 i), (9, .int .i64 hm), (10, .int .i64 hf), (11, .int .i64 hm), (12, .int .i64 hf), (71, .pointer (some ⟨g1, 0, none⟩)), (72, .int .i64 h), (73, .tuple #[.int .u64 ((Tb.S.val s2 h).toNat), .bool (Tb.S.has s2 h)]), (70, .tuple #[.int .u64 ((Tb.S.val s2 h).toNat), .bool (Tb.S.has s2 h)]), (74, .int .u64 ((Tb.S.val s2 h).toNat)), (75, .bool (Tb.S.has s2 h)), (13, .int .u64 ((Tb.S.val s2 h).toNat)), (14, .bool (Tb.S.has s2 h)), (77, .pointer (some ⟨g2, 0, none⟩)), (78, .int .i64 h), (79, .tuple #[.int .u64 ((Tb.S.val s2 h).toNat), .bool (Tb.S.has s2 h)]), (76, .tuple #[.int .u64 ((Tb.S.val s2 h).toNat), .bool (Tb.S.has s2 h)]), (80, .int .u64 ((Tb.S.val s2 h).toNat)), (81, .bool (Tb.S.has s2 h)), (15, .int .u64 ((Tb.S.val s2 h).toNat)), (16, .bool (Tb.S.has s2 h)), (116, .bool false)]) ⟨rfl, rfl, rfl, rfl, rfl, rfl, rfl, rfl, rfl, rfl, rfl, rfl, rfl, rfl, rfl, rfl, rfl, rfl, rfl, rfl, rfl, rfl, rfl, rfl, rfl, rfl, rfl, trivial⟩
        refine hK19 _ _ ?_
        refine Sx.condF F rfl ?_
        refine wp_skip ?_
        refine hK13 _ _ ?_
        refine Sx.plain ?_
        refine Sx.sv F (Sx.d_bin (v := .int .i64 (i + 1 : Nat)) F rfl rfl rfl (Sx.i_addN rfl (Sx.in_i64 _ (by omega)))) (Sx.wanted_none rfl _) rfl (by decide) (fun A F => ?_)
        refine Sx.sv F (Sx.d_move F (Or.inl rfl) rfl) (Sx.wanted_none rfl _) rfl (by decide) (fun A F => ?_)
        refine Sx.nil ?_
        try dsimp only [Exit.then]
        exact ⟨al.length - (i + 1), by omega, i + 1, s2, v', u', rfl, by omega, hok2, F.to ⟨rfl, rfl, rfl, rfl, rfl, rfl, trivial⟩, H.to' [0, 1] [0, 1] (by decide) (by decide) rfl rfl⟩
    clear hKx
    by_cases hd0 : a.d = 0
    · skip
      have q1 := (Tb.doh0 (s := sT) (h := a.h) hd0)
      have q2 := (Tb.doe0 (s := sT) (h := a.h) hd0)
      have q3 := (Tb.act0 (s := sT) (h := a.h) (x := a.x) hd0)
      rw [q1, q2] at F
      rw [q3] at H
      refine Sx.seq (fun K20 hK20 => ?_)
      refine Sx.plain ?_
      refine Sx.sv F (Sx.d_faddr (v := .pointer (some ⟨g3, 0, none⟩)) F rfl rfl (fa_66_0 _ 0 _)) (Sx.wanted_none rfl _) rfl (by decide) (fun A F => ?_)
      refine Sx.sv F (Sx.d_load1 (i := 1) (v := .int .i64 a.d) one_3 F H rfl rfl rfl rfl) (Sx.wanted_none rfl _) rfl (by decide) (fun A F => ?_)
      refine Sx.nil ?_
      refine hK20 _ _ ?_
      refine wp_block ?_
      refine Sx.seq (fun K21 hK21 => ?_)
      refine Sx.plain ?_
      refine Sx.sv F (Sx.d_bin (v := .bool true) F rfl rfl rfl (Sx.i_eq (beq_iff_eq.2 hd0))) (Sx.wanted_none rfl _) rfl (by decide) (fun A F => ?_)
      refine Sx.sv F (Sx.d_move F (Or.inr rfl) rfl) (Sx.wanted_none rfl _) rfl (by decide) (fun A F => ?_)
      refine Sx.nil ?_
      refine hK21 _ _ ?_
      refine Sx.condT F rfl ?_
      refine Sx.plain ?_
      refine Sx.sv F (Sx.d_move F (Or.inl rfl) rfl) (Sx.wanted_none rfl _) rfl (by decide) (fun A F => ?_)
      refine Sx.sv F (Sx.d_faddr (v := .pointer (some ⟨g3, 2, none⟩)) F rfl rfl (fa_66_2 _ 0 _)) (Sx.wanted_none rfl _) rfl (by decide) (fun A F => ?_)
      refine Sx.sv F (Sx.d_load1 (i := 1) (v := .int .u64 a.x.toNat) one_22 F H rfl rfl rfl rfl) (Sx.wanted_none rfl _) rfl (by decide) (fun A F => ?_)
      have H : Sx.Own w0 w [(true, g2, [u, .int .i64 sT.n]), (true, g1, [v2, .int .i64 ((Tb.S.add sT a.x).n)]), (true, g3, [.int .i64 a.d, .int .i64 a.h, .int .u64 a.x.toNat])] [⟨true, u, 103, 2, sT.l.length, (Tb.cells sT.l)⟩, ⟨true, v2, 107, 2, (Tb.S.add sT a.x).l.length, (Tb.cells (Tb.S.add sT a.x).l)⟩] := H.to' [2, 0, 1] [1, 0] (by decide) (by decide) rfl rfl
      refine Sx.so (x := .tuple #[.int .i64 (Tb.S.addh sT), .int .i64 (Tb.S.adde sT)]) F (Sx.d_callO (vs := [.pointer (some ⟨g2, 0, none⟩), .int .u64 a.x.toNat]) if_39 F rfl rfl (Sx.oo (rtadd_k sT a.x hok _ _ _ _ H))) (Sx.wanted_none rfl _) rfl (by decide) (fun v5 A w F (H : Sx.Own w0 _ [(true, g2, [v5, .int .i64 ((Tb.S.add sT a.x).n)]), (true, g1, [v2, .int .i64 ((Tb.S.add sT a.x).n)]), (true, g3, [.int .i64 a.d, .int .i64 a.h, .int .u64 a.x.toNat])] [⟨true, v5, 103, 2, (Tb.S.add sT a.x).l.length, (Tb.cells (Tb.S.add sT a.x).l)⟩, ⟨true, v2, 107, 2, (Tb.S.add sT a.x).l.length, (Tb.cells (Tb.S.add sT a.x).l)⟩]) => ?_)
      refine Sx.sv F (Sx.d_move F (Or.inl rfl) rfl) (Sx.wanted_none rfl _) rfl (by decide) (fun A F => ?_)
      refine Sx.sv F (Sx.d_extract (v := .int .i64 (Tb.S.addh sT)) F rfl rfl rfl) (Sx.wanted_none rfl _) rfl (by decide) (fun A F => ?_)
      refine Sx.sv F (Sx.d_extract (v := .int .i64 (Tb.S.adde sT)) F rfl rfl rfl) (Sx.wanted_none rfl _) rfl (by decide) (fun A F => ?_)
      refine Sx.sv F (Sx.d_move F (Or.inr rfl) rfl) (Sx.wanted_none rfl _) rfl (by decide) (fun A F => ?_)
      refine Sx.sv F (Sx.d_move F (Or.inr rfl) rfl) (Sx.wanted_none rfl _) rfl (by decide) (fun A F => ?_)
      refine Sx.nil ?_
      exact rest (Tb.S.add sT a.x) (Tb.S.addh sT) (Tb.S.adde sT) (v2) (v5) _ _ (hok.add _) (F.to ⟨rfl, rfl, rfl, rfl, rfl, rfl, rfl, rfl, rfl, rfl, trivial⟩) (H.to' [1, 0] [1, 0] (by decide) (by decide) rfl rfl)
    · skip
      by_cases hd1 : a.d = 1
      · cases hs : Tb.S.has sT a.h
        · skip
          have q1 := (Tb.doh1 hd1 hs : Tb.S.doh sT a.d a.h = 0)
          have q2 := (Tb.doe1 (s := sT) (h := a.h) hd1)
          have q3 := (Tb.act1 (s := sT) (h := a.h) (x := a.x) hd1)
          rw [q1, q2] at F
          rw [q3] at H
          refine Sx.seq (fun K22 hK22 => ?_)
          refine Sx.plain ?_
          refine Sx.sv F (Sx.d_faddr (v := .pointer (some ⟨g3, 0, none⟩)) F rfl rfl (fa_66_0 _ 0 _)) (Sx.wanted_none rfl _) rfl (by decide) (fun A F => ?_)
          refine Sx.sv F (Sx.d_load1 (i := 1) (v := .int .i64 a.d) one_3 F H rfl rfl rfl rfl) (Sx.wanted_none rfl _) rfl (by decide) (fun A F => ?_)
          refine Sx.nil ?_
          refine hK22 _ _ ?_
          refine wp_block ?_
          refine Sx.seq (fun K23 hK23 => ?_)
          refine Sx.plain ?_
          refine Sx.sv F (Sx.d_bin (v := .bool false) F rfl rfl rfl (Sx.i_eq (beq_false_of_ne hd0))) (Sx.wanted_none rfl _) rfl (by decide) (fun A F => ?_)
          refine Sx.sv F (Sx.d_move F (Or.inr rfl) rfl) (Sx.wanted_none rfl _) rfl (by decide) (fun A F => ?_)
          refine Sx.nil ?_
          refine hK23 _ _ ?_
          refine Sx.condF F rfl ?_
          refine Sx.seq (fun K24 hK24 => ?_)
          refine Sx.plain ?_
          refine Sx.sv F (Sx.d_bin (v := .bool true) F rfl rfl rfl (Sx.i_eq (beq_iff_eq.2 hd1))) (Sx.wanted_none rfl _) rfl (by decide) (fun A F => ?_)
          refine Sx.sv F (Sx.d_move F (Or.inr rfl) rfl) (Sx.wanted_none rfl _) rfl (by decide) (fun A F => ?_)
          refine Sx.nil ?_
          refine hK24 _ _ ?_
          refine Sx.condT F rfl ?_
          refine Sx.seq (fun K25 hK25 => ?_)
          refine Sx.plain ?_
          refine Sx.sv F (Sx.d_move F (Or.inl rfl) rfl) (Sx.wanted_none rfl _) rfl (by decide) (fun A F => ?_)
          refine Sx.sv F (Sx.d_faddr (v := .pointer (some ⟨g3, 1, none⟩)) F rfl rfl (fa_66_1 _ 0 _)) (Sx.wanted_none rfl _) rfl (by decide) (fun A F => ?_)
          refine Sx.sv F (Sx.d_load1 (i := 1) (v := .int .i64 a.h) one_3 F H rfl rfl rfl rfl) (Sx.wanted_none rfl _) rfl (by decide) (fun A F => ?_)
          have H : Sx.Own w0 w [(true, g2, [u, .int .i64 sT.n]), (true, g1, [v2, .int .i64 ((Tb.S.drop sT a.h).n)]), (true, g3, [.int .i64 a.d, .int .i64 a.h, .int .u64 a.x.toNat])] [⟨true, u, 103, 2, sT.l.length, (Tb.cells sT.l)⟩, ⟨true, v2, 107, 2, (Tb.S.drop sT a.h).l.length, (Tb.cells (Tb.S.drop sT a.h).l)⟩] := H.to' [2, 0, 1] [1, 0] (by decide) (by decide) rfl rfl
          refine Sx.so (x := .bool false) F (Sx.d_callO (vs := [.pointer (some ⟨g2, 0, none⟩), .int .i64 a.h]) if_40 F rfl rfl (Sx.oo ((rtdrop_k sT a.h hok _ _ _ _ H).mono (fun _ _ ⟨e, r⟩ => ⟨e.trans (by rw [show Tb.S.has sT a.h = false from hs]), r⟩)))) (Sx.wanted_none rfl _) rfl (by decide) (fun v6 A w F (H : Sx.Own w0 _ [(true, g2, [v6, .int .i64 ((Tb.S.drop sT a.h).n)]), (true, g1, [v2, .int .i64 ((Tb.S.drop sT a.h).n)]), (true, g3, [.int .i64 a.d, .int .i64 a.h, .int .u64 a.x.toNat])] [⟨true, v6, 103, 2, (Tb.S.drop sT a.h).l.length, (Tb.cells (Tb.S.drop sT a.h).l)⟩, ⟨true, v2, 107, 2, (Tb.S.drop sT a.h).l.length, (Tb.cells (Tb.S.drop sT a.h).l)⟩]) => ?_)
          refine Sx.nil ?_
          refine hK25 _ _ ?_
          refine Sx.condF F rfl ?_
          refine wp_skip ?_
          exact rest (Tb.S.drop sT a.h) 0 0 (v2) (v6) _ _ (hok.drop _) (F.to ⟨rfl, rfl, rfl, rfl, rfl, rfl, rfl, rfl, rfl, rfl, trivial⟩) (H.to' [1, 0] [1, 0] (by decide) (by decide) rfl rfl)
        · skip
          have q1 := (Tb.doh1 hd1 hs : Tb.S.doh sT a.d a.h = 1)
          have q2 := (Tb.doe1 (s := sT) (h := a.h) hd1)
          have q3 := (Tb.act1 (s := sT) (h := a.h) (x := a.x) hd1)
          rw [q1, q2] at F
          rw [q3] at H
          refine Sx.seq (fun K26 hK26 => ?_)
          refine Sx.plain ?_
          refine Sx.sv F (Sx.d_faddr (v := .pointer (some ⟨g3, 0, none⟩)) F rfl rfl (fa_66_0 _ 0 _)) (Sx.wanted_none rfl _) rfl (by decide) (fun A F => ?_)
          refine Sx.sv F (Sx.d_load1 (i := 1) (v := .int .i64 a.d) one_3 F H rfl rfl rfl rfl) (Sx.wanted_none rfl _) rfl (by decide) (fun A F => ?_)
          refine Sx.nil ?_
          refine hK26 _ _ ?_
          refine wp_block ?_
          refine Sx.seq (fun K27 hK27 => ?_)
          refine Sx.plain ?_
          refine Sx.sv F (Sx.d_bin (v := .bool false) F rfl rfl rfl (Sx.i_eq (beq_false_of_ne hd0))) (Sx.wanted_none rfl _) rfl (by decide) (fun A F => ?_)
          refine Sx.sv F (Sx.d_move F (Or.inr rfl) rfl) (Sx.wanted_none rfl _) rfl (by decide) (fun A F => ?_)
          refine Sx.nil ?_
          refine hK27 _ _ ?_
          refine Sx.condF F rfl ?_
          refine Sx.seq (fun K28 hK28 => ?_)
          refine Sx.plain ?_
          refine Sx.sv F (Sx.d_bin (v := .bool true) F rfl rfl rfl (Sx.i_eq (beq_iff_eq.2 hd1))) (Sx.wanted_none rfl _) rfl (by decide) (fun A F => ?_)
          refine Sx.sv F (Sx.d_move F (Or.inr rfl) rfl) (Sx.wanted_none rfl _) rfl (by decide) (fun A F => ?_)
          refine Sx.nil ?_
          refine hK28 _ _ ?_
          refine Sx.condT F rfl ?_
          refine Sx.seq (fun K29 hK29 => ?_)
          refine Sx.plain ?_
          refine Sx.sv F (Sx.d_move F (Or.inl rfl) rfl) (Sx.wanted_none rfl _) rfl (by decide) (fun A F => ?_)
          refine Sx.sv F (Sx.d_faddr (v := .pointer (some ⟨g3, 1, none⟩)) F rfl rfl (fa_66_1 _ 0 _)) (Sx.wanted_none rfl _) rfl (by decide) (fun A F => ?_)
          refine Sx.sv F (Sx.d_load1 (i := 1) (v := .int .i64 a.h) one_3 F H rfl rfl rfl rfl) (Sx.wanted_none rfl _) rfl (by decide) (fun A F => ?_)
          have H : Sx.Own w0 w [(true, g2, [u, .int .i64 sT.n]), (true, g1, [v2, .int .i64 ((Tb.S.drop sT a.h).n)]), (true, g3, [.int .i64 a.d, .int .i64 a.h, .int .u64 a.x.toNat])] [⟨true, u, 103, 2, sT.l.length, (Tb.cells sT.l)⟩, ⟨true, v2, 107, 2, (Tb.S.drop sT a.h).l.length, (Tb.cells (Tb.S.drop sT a.h).l)⟩] := H.to' [2, 0, 1] [1, 0] (by decide) (by decide) rfl rfl
          refine Sx.so (x := .bool true) F (Sx.d_callO (vs := [.pointer (some ⟨g2, 0, none⟩), .int .i64 a.h]) if_40 F rfl rfl (Sx.oo ((rtdrop_k sT a.h hok _ _ _ _ H).mono (fun _ _ ⟨e, r⟩ => ⟨e.trans (by rw [show Tb.S.has sT a.h = true from hs]), r⟩)))) (Sx.wanted_none rfl _) rfl (by decide) (fun v7 A w F (H : Sx.Own w0 _ [(true, g2, [v7, .int .i64 ((Tb.S.drop sT a.h).n)]), (true, g1, [v2, .int .i64 ((Tb.S.drop sT a.h).n)]), (true, g3, [.int .i64 a.d, .int .i64 a.h, .int .u64 a.x.toNat])] [⟨true, v7, 103, 2, (Tb.S.drop sT a.h).l.length, (Tb.cells (Tb.S.drop sT a.h).l)⟩, ⟨true, v2, 107, 2, (Tb.S.drop sT a.h).l.length, (Tb.cells (Tb.S.drop sT a.h).l)⟩]) => ?_)
          refine Sx.nil ?_
          refine hK29 _ _ ?_
          refine Sx.condT F rfl ?_
          refine Sx.plain ?_
          refine Sx.sv F (Sx.d_move F (Or.inr rfl) rfl) (Sx.wanted_none rfl _) rfl (by decide) (fun A F => ?_)
          refine Sx.nil ?_
          exact rest (Tb.S.drop sT a.h) 1 0 (v2) (v7) _ _ (hok.drop _) (F.to ⟨rfl, rfl, rfl, rfl, rfl, rfl, rfl, rfl, rfl, rfl, trivial⟩) (H.to' [1, 0] [1, 0] (by decide) (by decide) rfl rfl)
      · skip
        by_cases hd2 : a.d = 2
        · skip
          have q1 := (Tb.doh2 (s := sT) (h := a.h) hd2)
          have q2 := (Tb.doe2 (s := sT) (h := a.h) hd2)
          have q3 := (Tb.act2 (s := sT) (h := a.h) (x := a.x) hd2)
          rw [q1, q2] at F
          rw [q3] at H
          refine Sx.seq (fun K30 hK30 => ?_)
          refine Sx.plain ?_
          refine Sx.sv F (Sx.d_faddr (v := .pointer (some ⟨g3, 0, none⟩)) F rfl rfl (fa_66_0 _ 0 _)) (Sx.wanted_none rfl _) rfl (by decide) (fun A F => ?_)
          refine Sx.sv F (Sx.d_load1 (i := 1) (v := .int .i64 a.d) one_3 F H rfl rfl rfl rfl) (Sx.wanted_none rfl _) rfl (by decide) (fun A F => ?_)
          refine Sx.nil ?_
          refine hK30 _ _ ?_
          refine wp_block ?_
          refine Sx.seq (fun K31 hK31 => ?_)
          refine Sx.plain ?_
          refine Sx.sv F (Sx.d_bin (v := .bool false) F rfl rfl rfl (Sx.i_eq (beq_false_of_ne hd0))) (Sx.wanted_none rfl _) rfl (by decide) (fun A F => ?_)
          refine Sx.sv F (Sx.d_move F (Or.inr rfl) rfl) (Sx.wanted_none rfl _) rfl (by decide) (fun A F => ?_)
          refine Sx.nil ?_
          refine hK31 _ _ ?_
          refine Sx.condF F rfl ?_
          refine Sx.seq (fun K32 hK32 => ?_)
          refine Sx.plain ?_
          refine Sx.sv F (Sx.d_bin (v := .bool false) F rfl rfl rfl (Sx.i_eq (beq_false_of_ne hd1))) (Sx.wanted_none rfl _) rfl (by decide) (fun A F => ?_)
          refine Sx.sv F (Sx.d_move F (Or.inr rfl) rfl) (Sx.wanted_none rfl _) rfl (by decide) (fun A F => ?_)
          refine Sx.nil ?_
          refine hK32 _ _ ?_
          refine Sx.condF F rfl ?_
          refine Sx.seq (fun K33 hK33 => ?_)
          refine Sx.plain ?_
          refine Sx.sv F (Sx.d_bin (v := .bool true) F rfl rfl rfl (Sx.i_eq (beq_iff_eq.2 hd2))) (Sx.wanted_none rfl _) rfl (by decide) (fun A F => ?_)
          refine Sx.sv F (Sx.d_move F (Or.inr rfl) rfl) (Sx.wanted_none rfl _) rfl (by decide) (fun A F => ?_)
          refine Sx.nil ?_
          refine hK33 _ _ ?_
          refine Sx.condT F rfl ?_
          refine Sx.plain ?_
          refine Sx.sv F (Sx.d_move F (Or.inl rfl) rfl) (Sx.wanted_none rfl _) rfl (by decide) (fun A F => ?_)
          refine Sx.sv F (Sx.d_faddr (v := .pointer (some ⟨g3, 1, none⟩)) F rfl rfl (fa_66_1 _ 0 _)) (Sx.wanted_none rfl _) rfl (by decide) (fun A F => ?_)
          refine Sx.sv F (Sx.d_load1 (i := 1) (v := .int .i64 a.h) one_3 F H rfl rfl rfl rfl) (Sx.wanted_none rfl _) rfl (by decide) (fun A F => ?_)
          refine Sx.sv F (Sx.d_faddr (v := .pointer (some ⟨g3, 2, none⟩)) F rfl rfl (fa_66_2 _ 0 _)) (Sx.wanted_none rfl _) rfl (by decide) (fun A F => ?_)
          refine Sx.sv F (Sx.d_load1 (i := 1) (v := .int .u64 a.x.toNat) one_22 F H rfl rfl rfl rfl) (Sx.wanted_none rfl _) rfl (by decide) (fun A F => ?_)
          have H : Sx.Own w0 w [(true, g2, [u, .int .i64 sT.n]), (true, g1, [v2, .int .i64 ((Tb.S.lay sT a.h a.x).n)]), (true, g3, [.int .i64 a.d, .int .i64 a.h, .int .u64 a.x.toNat])] [⟨true, u, 103, 2, sT.l.length, (Tb.cells sT.l)⟩, ⟨true, v2, 107, 2, (Tb.S.lay sT a.h a.x).l.length, (Tb.cells (Tb.S.lay sT a.h a.x).l)⟩] := H.to' [2, 0, 1] [1, 0] (by decide) (by decide) rfl rfl
          refine Sx.so (x := .int .i64 (Tb.S.laye sT a.h)) F (Sx.d_callO (vs := [.pointer (some ⟨g2, 0, none⟩), .int .i64 a.h, .int .u64 a.x.toNat]) if_41 F rfl rfl (Sx.oo (rtlay_k sT a.h a.x (by omega) hok _ _ _ _ H))) (Sx.wanted_none rfl _) rfl (by decide) (fun v8 A w F (H : Sx.Own w0 _ [(true, g2, [v8, .int .i64 ((Tb.S.lay sT a.h a.x).n)]), (true, g1, [v2, .int .i64 ((Tb.S.lay sT a.h a.x).n)]), (true, g3, [.int .i64 a.d, .int .i64 a.h, .int .u64 a.x.toNat])] [⟨true, v8, 103, 2, (Tb.S.lay sT a.h a.x).l.length, (Tb.cells (Tb.S.lay sT a.h a.x).l)⟩, ⟨true, v2, 107, 2, (Tb.S.lay sT a.h a.x).l.length, (Tb.cells (Tb.S.lay sT a.h a.x).l)⟩]) => ?_)
          refine Sx.sv F (Sx.d_move F (Or.inr rfl) rfl) (Sx.wanted_none rfl _) rfl (by decide) (fun A F => ?_)
          refine Sx.nil ?_
          exact rest (Tb.S.lay sT a.h a.x) 0 (Tb.S.laye sT a.h) (v2) (v8) _ _ (hok.lay _ _) (F.to ⟨rfl, rfl, rfl, rfl, rfl, rfl, rfl, rfl, rfl, rfl, trivial⟩) (H.to' [1, 0] [1, 0] (by decide) (by decide) rfl rfl)
        · skip
          by_cases hd3 : a.d = 3
          · skip
            have q1 := (Tb.doh3 (s := sT) (h := a.h) hd3)
            have q2 := (Tb.doe3 (s := sT) (h := a.h) hd3)
            have q3 := (Tb.act3 (s := sT) (h := a.h) (x := a.x) hd3)
            rw [q1, q2] at F
            rw [q3] at H
            refine Sx.seq (fun K34 hK34 => ?_)
            refine Sx.plain ?_
            refine Sx.sv F (Sx.d_faddr (v := .pointer (some ⟨g3, 0, none⟩)) F rfl rfl (fa_66_0 _ 0 _)) (Sx.wanted_none rfl _) rfl (by decide) (fun A F => ?_)
            refine Sx.sv F (Sx.d_load1 (i := 1) (v := .int .i64 a.d) one_3 F H rfl rfl rfl rfl) (Sx.wanted_none rfl _) rfl (by decide) (fun A F => ?_)
            refine Sx.nil ?_
            refine hK34 _ _ ?_
            refine wp_block ?_
            refine Sx.seq (fun K35 hK35 => ?_)
            refine Sx.plain ?_
            refine Sx.sv F (Sx.d_bin (v := .bool false) F rfl rfl rfl (Sx.i_eq (beq_false_of_ne hd0))) (Sx.wanted_none rfl _) rfl (by decide) (fun A F => ?_)
            refine Sx.sv F (Sx.d_move F (Or.inr rfl) rfl) (Sx.wanted_none rfl _) rfl (by decide) (fun A F => ?_)
            refine Sx.nil ?_
            refine hK35 _ _ ?_
            refine Sx.condF F rfl ?_
            refine Sx.seq (fun K36 hK36 => ?_)
            refine Sx.plain ?_
            refine Sx.sv F (Sx.d_bin (v := .bool false) F rfl rfl rfl (Sx.i_eq (beq_false_of_ne hd1))) (Sx.wanted_none rfl _) rfl (by decide) (fun A F => ?_)
            refine Sx.sv F (Sx.d_move F (Or.inr rfl) rfl) (Sx.wanted_none rfl _) rfl (by decide) (fun A F => ?_)
            refine Sx.nil ?_
            refine hK36 _ _ ?_
            refine Sx.condF F rfl ?_
            refine Sx.seq (fun K37 hK37 => ?_)
            refine Sx.plain ?_
            refine Sx.sv F (Sx.d_bin (v := .bool false) F rfl rfl rfl (Sx.i_eq (beq_false_of_ne hd2))) (Sx.wanted_none rfl _) rfl (by decide) (fun A F => ?_)
            refine Sx.sv F (Sx.d_move F (Or.inr rfl) rfl) (Sx.wanted_none rfl _) rfl (by decide) (fun A F => ?_)
            refine Sx.nil ?_
            refine hK37 _ _ ?_
            refine Sx.condF F rfl ?_
            refine Sx.seq (fun K38 hK38 => ?_)
            refine Sx.plain ?_
            refine Sx.sv F (Sx.d_bin (v := .bool true) F rfl rfl rfl (Sx.i_eq (beq_iff_eq.2 hd3))) (Sx.wanted_none rfl _) rfl (by decide) (fun A F => ?_)
            refine Sx.sv F (Sx.d_move F (Or.inr rfl) rfl) (Sx.wanted_none rfl _) rfl (by decide) (fun A F => ?_)
            refine Sx.nil ?_
            refine hK38 _ _ ?_
            refine Sx.condT F rfl ?_
            refine Sx.plain ?_
            refine Sx.sv F (Sx.d_move F (Or.inl rfl) rfl) (Sx.wanted_none rfl _) rfl (by decide) (fun A F => ?_)
            refine Sx.sv F (Sx.d_faddr (v := .pointer (some ⟨g3, 1, none⟩)) F rfl rfl (fa_66_1 _ 0 _)) (Sx.wanted_none rfl _) rfl (by decide) (fun A F => ?_)
            refine Sx.sv F (Sx.d_load1 (i := 1) (v := .int .i64 a.h) one_3 F H rfl rfl rfl rfl) (Sx.wanted_none rfl _) rfl (by decide) (fun A F => ?_)
            have H : Sx.Own w0 w [(true, g2, [u, .int .i64 sT.n]), (true, g1, [v2, .int .i64 ((Tb.S.goes sT a.h).n)]), (true, g3, [.int .i64 a.d, .int .i64 a.h, .int .u64 a.x.toNat])] [⟨true, u, 103, 2, sT.l.length, (Tb.cells sT.l)⟩, ⟨true, v2, 107, 2, (Tb.S.goes sT a.h).l.length, (Tb.cells (Tb.S.goes sT a.h).l)⟩] := H.to' [2, 0, 1] [1, 0] (by decide) (by decide) rfl rfl
            refine Sx.so (x := .int .i64 (Tb.S.goese sT a.h)) F (Sx.d_callO (vs := [.pointer (some ⟨g2, 0, none⟩), .int .i64 a.h]) if_42 F rfl rfl (Sx.oo (rtgoes_k sT a.h hok _ _ _ _ H))) (Sx.wanted_none rfl _) rfl (by decide) (fun v9 A w F (H : Sx.Own w0 _ [(true, g2, [v9, .int .i64 ((Tb.S.goes sT a.h).n)]), (true, g1, [v2, .int .i64 ((Tb.S.goes sT a.h).n)]), (true, g3, [.int .i64 a.d, .int .i64 a.h, .int .u64 a.x.toNat])] [⟨true, v9, 103, 2, (Tb.S.goes sT a.h).l.length, (Tb.cells (Tb.S.goes sT a.h).l)⟩, ⟨true, v2, 107, 2, (Tb.S.goes sT a.h).l.length, (Tb.cells (Tb.S.goes sT a.h).l)⟩]) => ?_)
            refine Sx.sv F (Sx.d_move F (Or.inr rfl) rfl) (Sx.wanted_none rfl _) rfl (by decide) (fun A F => ?_)
            refine Sx.nil ?_
            exact rest (Tb.S.goes sT a.h) 0 (Tb.S.goese sT a.h) (v2) (v9) _ _ (hok.goes _) (F.to ⟨rfl, rfl, rfl, rfl, rfl, rfl, rfl, rfl, rfl, rfl, trivial⟩) (H.to' [1, 0] [1, 0] (by decide) (by decide) rfl rfl)
          · skip
            have q1 := (Tb.doh4 (s := sT) (h := a.h) hd0 hd1)
            have q2 := (Tb.doe4 (s := sT) (h := a.h) hd0 hd1 hd2 hd3)
            have q3 := (Tb.act4 (s := sT) (h := a.h) (x := a.x) hd0 hd1 hd2 hd3)
            rw [q1, q2] at F
            rw [q3] at H
            refine Sx.seq (fun K39 hK39 => ?_)
            refine Sx.plain ?_
            refine Sx.sv F (Sx.d_faddr (v := .pointer (some ⟨g3, 0, none⟩)) F rfl rfl (fa_66_0 _ 0 _)) (Sx.wanted_none rfl _) rfl (by decide) (fun A F => ?_)
            refine Sx.sv F (Sx.d_load1 (i := 1) (v := .int .i64 a.d) one_3 F H rfl rfl rfl rfl) (Sx.wanted_none rfl _) rfl (by decide) (fun A F => ?_)
            refine Sx.nil ?_
            refine hK39 _ _ ?_
            refine wp_block ?_
            refine Sx.seq (fun K40 hK40 => ?_)
            refine Sx.plain ?_
            refine Sx.sv F (Sx.d_bin (v := .bool false) F rfl rfl rfl (Sx.i_eq (beq_false_of_ne hd0))) (Sx.wanted_none rfl _) rfl (by decide) (fun A F => ?_)
            refine Sx.sv F (Sx.d_move F (Or.inr rfl) rfl) (Sx.wanted_none rfl _) rfl (by decide) (fun A F => ?_)
            refine Sx.nil ?_
            refine hK40 _ _ ?_
            refine Sx.condF F rfl ?_
            refine Sx.seq (fun K41 hK41 => ?_)
            refine Sx.plain ?_
            refine Sx.sv F (Sx.d_bin (v := .bool false) F rfl rfl rfl (Sx.i_eq (beq_false_of_ne hd1))) (Sx.wanted_none rfl _) rfl (by decide) (fun A F => ?_)
            refine Sx.sv F (Sx.d_move F (Or.inr rfl) rfl) (Sx.wanted_none rfl _) rfl (by decide) (fun A F => ?_)
            refine Sx.nil ?_
            refine hK41 _ _ ?_
            refine Sx.condF F rfl ?_
            refine Sx.seq (fun K42 hK42 => ?_)
            refine Sx.plain ?_
            refine Sx.sv F (Sx.d_bin (v := .bool false) F rfl rfl rfl (Sx.i_eq (beq_false_of_ne hd2))) (Sx.wanted_none rfl _) rfl (by decide) (fun A F => ?_)
            refine Sx.sv F (Sx.d_move F (Or.inr rfl) rfl) (Sx.wanted_none rfl _) rfl (by decide) (fun A F => ?_)
            refine Sx.nil ?_
            refine hK42 _ _ ?_
            refine Sx.condF F rfl ?_
            refine Sx.seq (fun K43 hK43 => ?_)
            refine Sx.plain ?_
            refine Sx.sv F (Sx.d_bin (v := .bool false) F rfl rfl rfl (Sx.i_eq (beq_false_of_ne hd3))) (Sx.wanted_none rfl _) rfl (by decide) (fun A F => ?_)
            refine Sx.sv F (Sx.d_move F (Or.inr rfl) rfl) (Sx.wanted_none rfl _) rfl (by decide) (fun A F => ?_)
            refine Sx.nil ?_
            refine hK43 _ _ ?_
            refine Sx.condF F rfl ?_
            refine wp_skip ?_
            exact rest (sT) 0 0 (v2) (u) _ _ hok (F.to ⟨rfl, rfl, rfl, rfl, rfl, rfl, rfl, rfl, rfl, rfl, trivial⟩) (H.to' [0, 2] [0, 1] (by decide) (by decide) rfl rfl)
  · have hie : i = al.length := by omega
    rw [hie] at F
    refine Sx.seq (fun K44 hK44 => ?_)
    refine Sx.plain ?_
    refine Sx.sv F (Sx.d_bin (v := .bool false) F rfl rfl rfl (Sx.i_lt (by simp))) (Sx.wanted_none rfl _) rfl (by decide) (fun A F => ?_)
    refine Sx.nil ?_
    refine hK44 _ _ ?_
    refine Sx.seq (fun K45 hK45 => ?_)
    refine Sx.condF F rfl ?_
    refine wp_exit ?_
    try dsimp only [Exit.then, Exit.jump]
    refine Sx.exit_here ?_
    refine hK9 _ _ ?_
    refine Sx.seq (fun K46 hK46 => ?_)
    refine Sx.plain ?_
    refine Sx.sv F (Sx.d_move F (Or.inr rfl) rfl) (Sx.wanted_none rfl _) rfl (by decide) (fun A F => ?_)
    refine Sx.nil ?_
    refine hK46 _ _ ?_
    refine wp_ret ?_
    try dsimp only [Exit.then, Exit.inBlock, Exit.jump]
    refine Sx.ret1 F Try.results7 (Sx.res_tmp (v := .bool true) F rfl) ⟨?_, H.below⟩
    rfl
theorem tableDoes_walk (v : Value) (al : List Tb.Act) (h : Int) (w : World) (ha : Tb.Acts w v al) : Calls Try.prog 7 #[v, .int .i64 h] w fun e w' => e = .returned (.bool true) ∧ Below w.heap.size w w' := by
  obtain ⟨ada, capa, rfl, hb, hca⟩ := ha
  by_cases hl : 100 < al.length
  · exact tableDoes_long al ada capa h hl w
  · exact tableDoes_s al ada capa h (by omega) w hb hca
end Go.Proofs.Ytpbdffmgendboab
