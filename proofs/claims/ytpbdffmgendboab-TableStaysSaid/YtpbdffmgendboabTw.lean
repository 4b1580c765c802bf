/- The law's own calls (table): each answers as the law asks. -/
import Derived.Test.YtpbdffmgendboabTe
namespace Go.Proofs.Ytpbdffmgendboab
open Go Go.RowKit
set_option maxRecDepth 100000 in
theorem tplus_c (x : BitVec 64) (w0 : World) : Calls Try.prog 66 #[.int .u64 x.toNat] w0 fun e w' => e = .returned (.int .u64 ((x + 1#64).toNat)) ∧ Below w0.heap.size w0 w' := by
  refine Sx.enter (args := [.int .u64 x.toNat]) Try.func66 rfl Try.ntmps66 (Nat.le_of_ble_eq_true rfl) (fun A F => ?_)
  have H := Sx.Own.start w0
  refine Sx.seq (fun K1 hK1 => ?_)
  refine Sx.plain ?_
  refine Sx.sv F (Sx.d_move F (Or.inr rfl) rfl) (Sx.wanted_none rfl _) rfl (by decide) (fun A F => ?_)
  refine Sx.nil ?_
  refine hK1 _ _ ?_
  refine Sx.seq (fun K2 hK2 => ?_)
  refine Sx.plain ?_
  refine Sx.sv F (Sx.d_move F (Or.inl rfl) rfl) (Sx.wanted_none rfl _) rfl (by decide) (fun A F => ?_)
  refine Sx.sv F (Sx.d_bin (v := .int .u64 ((x + 1#64).toNat)) F rfl rfl rfl (Sx.i_add64 x 1#64)) (Sx.wanted_none rfl _) rfl (by decide) (fun A F => ?_)
  refine Sx.sv F (Sx.d_move F (Or.inr rfl) rfl) (Sx.wanted_none rfl _) rfl (by decide) (fun A F => ?_)
  refine Sx.nil ?_
  refine hK2 _ _ ?_
  refine wp_ret ?_
  try dsimp only [Exit.then, Exit.inBlock, Exit.jump]
  refine Sx.ret1 F Try.results66 (Sx.res_tmp (v := .int .u64 ((x + 1#64).toNat)) F rfl) ⟨?_, H.below⟩
  rfl
def Tb.aw : Tb.S := Tb.S.goes (Tb.S.goes (Tb.S.lay (Tb.S.lay (Tb.S.drop (Tb.S.drop (Tb.S.add (Tb.S.add Tb.S.new 7#64) 8#64) 0) 0) 1 5#64) 5 9#64) 5) 8
theorem Tb.aw_ok : Tb.aw.ok := by unfold Tb.aw; exact (((((((Tb.S.ok.new.add _).add _).drop _).drop _).lay _ _).lay _ _).goes _).goes _
set_option maxHeartbeats 4000000 in
set_option maxRecDepth 100000 in
theorem awake19_c  (w0 : World) : Calls Try.prog 36 #[] w0 fun e w' => e = .returned (.bool true) ∧ Below w0.heap.size w0 w' := by
  refine Sx.enter (args := []) Try.func36 rfl Try.ntmps36 (Nat.le_of_ble_eq_true rfl) (fun A F => ?_)
  have H := Sx.Own.start w0
  refine Sx.seq (fun K1 hK1 => ?_)
  refine Sx.plain ?_
  refine Sx.sv F (Sx.d_move F (Or.inr rfl) rfl) (Sx.wanted_none rfl _) rfl (by decide) (fun A F => ?_)
  refine Sx.nil ?_
  refine hK1 _ _ ?_
  refine Sx.seq (fun K2 hK2 => ?_)
  refine Sx.plain ?_
  refine Sx.sj F (Sx.d_callO (vs := []) if_37 F rfl rfl (Sx.jj H (tnew_c _))) (Sx.wanted_none rfl _) rfl (by decide) (fun g1 v1 A w F (H : Sx.Own w0 _ [(true, g1, [v1, .int .i64 Tb.S.new.n])] [⟨true, v1, 107, 2, Tb.S.new.l.length, (Tb.cells Tb.S.new.l)⟩]) => ?_)
  refine Sx.sv F (Sx.d_move F (Or.inr rfl) rfl) (Sx.wanted_none rfl _) rfl (by decide) (fun A F => ?_)
  refine Sx.nil ?_
  refine hK2 _ _ ?_
  refine Sx.seq (fun K3 hK3 => ?_)
  refine Sx.seq (fun K4 hK4 => ?_)
  refine Sx.plain ?_
  refine Sx.sv F (Sx.d_move F (Or.inl rfl) rfl) (Sx.wanted_none rfl _) rfl (by decide) (fun A F => ?_)
  refine Sx.sv F (Sx.d_bin (v := .bool false) F rfl rfl rfl Sx.pnil) (Sx.wanted_none rfl _) rfl (by decide) (fun A F => ?_)
  refine Sx.nil ?_
  refine hK4 _ _ ?_
  refine Sx.condF F rfl ?_
  refine wp_skip ?_
  refine hK3 _ _ ?_
  refine Sx.seq (fun K5 hK5 => ?_)
  refine Sx.plain ?_
  refine Sx.sv F (Sx.d_move F (Or.inl rfl) rfl) (Sx.wanted_none rfl _) rfl (by decide) (fun A F => ?_)
  refine Sx.so (x := .tuple #[.int .i64 (Tb.S.addh Tb.S.new), .int .i64 (Tb.S.adde Tb.S.new)]) F (Sx.d_callO (vs := [.pointer (some ⟨g1, 0, none⟩), .int .u64 7]) if_62 F rfl rfl (Sx.oo (tadd_k Tb.S.new 7#64 Tb.S.ok.new _ _ _ _ H))) (Sx.wanted_none rfl _) rfl (by decide) (fun v2 A w F (H : Sx.Own w0 _ [(true, g1, [v2, .int .i64 ((Tb.S.add Tb.S.new 7#64).n)])] [⟨true, v2, 107, 2, (Tb.S.add Tb.S.new 7#64).l.length, (Tb.cells (Tb.S.add Tb.S.new 7#64).l)⟩]) => ?_)
  refine Sx.sv F (Sx.d_move F (Or.inl rfl) rfl) (Sx.wanted_none rfl _) rfl (by decide) (fun A F => ?_)
  refine Sx.sv F (Sx.d_extract (v := .int .i64 (Tb.S.addh Tb.S.new)) F rfl rfl rfl) (Sx.wanted_none rfl _) rfl (by decide) (fun A F => ?_)
  refine Sx.sv F (Sx.d_extract (v := .int .i64 (Tb.S.adde Tb.S.new)) F rfl rfl rfl) (Sx.wanted_none rfl _) rfl (by decide) (fun A F => ?_)
  refine Sx.sv F (Sx.d_move F (Or.inr rfl) rfl) (Sx.wanted_none rfl _) rfl (by decide) (fun A F => ?_)
  refine Sx.sv F (Sx.d_move F (Or.inr rfl) rfl) (Sx.wanted_none rfl _) rfl (by decide) (fun A F => ?_)
  refine Sx.nil ?_
  refine hK5 _ _ ?_
  refine Sx.seq (fun K6 hK6 => ?_)
  refine Sx.plain ?_
  refine Sx.sv F (Sx.d_move F (Or.inl rfl) rfl) (Sx.wanted_none rfl _) rfl (by decide) (fun A F => ?_)
  refine Sx.so (x := .tuple #[.int .i64 (Tb.S.addh (Tb.S.add Tb.S.new 7#64)), .int .i64 (Tb.S.adde (Tb.S.add Tb.S.new 7#64))]) F (Sx.d_callO (vs := [.pointer (some ⟨g1, 0, none⟩), .int .u64 8]) if_62 F rfl rfl (Sx.oo (tadd_k (Tb.S.add Tb.S.new 7#64) 8#64 (Tb.S.ok.add Tb.S.ok.new 7#64) _ _ _ _ H))) (Sx.wanted_none rfl _) rfl (by decide) (fun v3 A w F (H : Sx.Own w0 _ [(true, g1, [v3, .int .i64 ((Tb.S.add (Tb.S.add Tb.S.new 7#64) 8#64).n)])] [⟨true, v3, 107, 2, (Tb.S.add (Tb.S.add Tb.S.new 7#64) 8#64).l.length, (Tb.cells (Tb.S.add (Tb.S.add Tb.S.new 7#64) 8#64).l)⟩]) => ?_)
  refine Sx.sv F (Sx.d_move F (Or.inl rfl) rfl) (Sx.wanted_none rfl _) rfl (by decide) (fun A F => ?_)
  refine Sx.sv F (Sx.d_extract (v := .int .i64 (Tb.S.addh (Tb.S.add Tb.S.new 7#64))) F rfl rfl rfl) (Sx.wanted_none rfl _) rfl (by decide) (fun A F => ?_)
  refine Sx.sv F (Sx.d_extract (v := .int .i64 (Tb.S.adde (Tb.S.add Tb.S.new 7#64))) F rfl rfl rfl) (Sx.wanted_none rfl _) rfl (by decide) (fun A F => ?_)
  refine Sx.sv F (Sx.d_move F (Or.inr rfl) rfl) (Sx.wanted_none rfl _) rfl (by decide) (fun A F => ?_)
  refine Sx.sv F (Sx.d_move F (Or.inr rfl) rfl) (Sx.wanted_none rfl _) rfl (by decide) (fun A F => ?_)
  refine Sx.nil ?_
  refine hK6 _ _ ?_
  refine Sx.seq (fun K7 hK7 => ?_)
  refine Sx.plain ?_
  refine Sx.sv F (Sx.d_move F (Or.inl rfl) rfl) (Sx.wanted_none rfl _) rfl (by decide) (fun A F => ?_)
  refine Sx.so (x := .bool true) F (Sx.d_callO (vs := [.pointer (some ⟨g1, 0, none⟩), .int .i64 0]) if_63 F rfl rfl (Sx.oo ((tdrop_k (Tb.S.add (Tb.S.add Tb.S.new 7#64) 8#64) 0 (Tb.S.ok.add (Tb.S.ok.add Tb.S.ok.new 7#64) 8#64) _ _ _ _ H).mono (fun _ _ ⟨e, r⟩ => ⟨e.trans (by rw [show Tb.S.has (Tb.S.add (Tb.S.add Tb.S.new 7#64) 8#64) 0 = true from by kernel_rfl]), r⟩)))) (Sx.wanted_none rfl _) rfl (by decide) (fun v4 A w F (H : Sx.Own w0 _ [(true, g1, [v4, .int .i64 ((Tb.S.drop (Tb.S.add (Tb.S.add Tb.S.new 7#64) 8#64) 0).n)])] [⟨true, v4, 107, 2, (Tb.S.drop (Tb.S.add (Tb.S.add Tb.S.new 7#64) 8#64) 0).l.length, (Tb.cells (Tb.S.drop (Tb.S.add (Tb.S.add Tb.S.new 7#64) 8#64) 0).l)⟩]) => ?_)
  refine Sx.sv F (Sx.d_move F (Or.inr rfl) rfl) (Sx.wanted_none rfl _) rfl (by decide) (fun A F => ?_)
  refine Sx.nil ?_
  refine hK7 _ _ ?_
  refine Sx.seq (fun K8 hK8 => ?_)
  refine Sx.plain ?_
  refine Sx.sv F (Sx.d_move F (Or.inl rfl) rfl) (Sx.wanted_none rfl _) rfl (by decide) (fun A F => ?_)
  refine Sx.so (x := .bool false) F (Sx.d_callO (vs := [.pointer (some ⟨g1, 0, none⟩), .int .i64 0]) if_63 F rfl rfl (Sx.oo ((tdrop_k (Tb.S.drop (Tb.S.add (Tb.S.add Tb.S.new 7#64) 8#64) 0) 0 (Tb.S.ok.drop (Tb.S.ok.add (Tb.S.ok.add Tb.S.ok.new 7#64) 8#64) 0) _ _ _ _ H).mono (fun _ _ ⟨e, r⟩ => ⟨e.trans (by rw [show Tb.S.has (Tb.S.drop (Tb.S.add (Tb.S.add Tb.S.new 7#64) 8#64) 0) 0 = false from by kernel_rfl]), r⟩)))) (Sx.wanted_none rfl _) rfl (by decide) (fun v5 A w F (H : Sx.Own w0 _ [(true, g1, [v5, .int .i64 ((Tb.S.drop (Tb.S.drop (Tb.S.add (Tb.S.add Tb.S.new 7#64) 8#64) 0) 0).n)])] [⟨true, v5, 107, 2, (Tb.S.drop (Tb.S.drop (Tb.S.add (Tb.S.add Tb.S.new 7#64) 8#64) 0) 0).l.length, (Tb.cells (Tb.S.drop (Tb.S.drop (Tb.S.add (Tb.S.add Tb.S.new 7#64) 8#64) 0) 0).l)⟩]) => ?_)
  refine Sx.sv F (Sx.d_move F (Or.inr rfl) rfl) (Sx.wanted_none rfl _) rfl (by decide) (fun A F => ?_)
  refine Sx.nil ?_
  refine hK8 _ _ ?_
  refine Sx.seq (fun K9 hK9 => ?_)
  refine Sx.plain ?_
  refine Sx.sv F (Sx.d_move F (Or.inl rfl) rfl) (Sx.wanted_none rfl _) rfl (by decide) (fun A F => ?_)
  refine Sx.so (x := .int .i64 (Tb.S.laye (Tb.S.drop (Tb.S.drop (Tb.S.add (Tb.S.add Tb.S.new 7#64) 8#64) 0) 0) 1)) F (Sx.d_callO (vs := [.pointer (some ⟨g1, 0, none⟩), .int .i64 1, .int .u64 5]) if_64 F rfl rfl (Sx.oo (tlay_k (Tb.S.drop (Tb.S.drop (Tb.S.add (Tb.S.add Tb.S.new 7#64) 8#64) 0) 0) 1 5#64 (by omega) (Tb.S.ok.drop (Tb.S.ok.drop (Tb.S.ok.add (Tb.S.ok.add Tb.S.ok.new 7#64) 8#64) 0) 0) _ _ _ _ H))) (Sx.wanted_none rfl _) rfl (by decide) (fun v6 A w F (H : Sx.Own w0 _ [(true, g1, [v6, .int .i64 ((Tb.S.lay (Tb.S.drop (Tb.S.drop (Tb.S.add (Tb.S.add Tb.S.new 7#64) 8#64) 0) 0) 1 5#64).n)])] [⟨true, v6, 107, 2, (Tb.S.lay (Tb.S.drop (Tb.S.drop (Tb.S.add (Tb.S.add Tb.S.new 7#64) 8#64) 0) 0) 1 5#64).l.length, (Tb.cells (Tb.S.lay (Tb.S.drop (Tb.S.drop (Tb.S.add (Tb.S.add Tb.S.new 7#64) 8#64) 0) 0) 1 5#64).l)⟩]) => ?_)
  refine Sx.sv F (Sx.d_move F (Or.inr rfl) rfl) (Sx.wanted_none rfl _) rfl (by decide) (fun A F => ?_)
  refine Sx.nil ?_
  refine hK9 _ _ ?_
  refine Sx.seq (fun K10 hK10 => ?_)
  refine Sx.plain ?_
  refine Sx.sv F (Sx.d_move F (Or.inl rfl) rfl) (Sx.wanted_none rfl _) rfl (by decide) (fun A F => ?_)
  refine Sx.so (x := .int .i64 (Tb.S.laye (Tb.S.lay (Tb.S.drop (Tb.S.drop (Tb.S.add (Tb.S.add Tb.S.new 7#64) 8#64) 0) 0) 1 5#64) 5)) F (Sx.d_callO (vs := [.pointer (some ⟨g1, 0, none⟩), .int .i64 5, .int .u64 9]) if_64 F rfl rfl (Sx.oo (tlay_k (Tb.S.lay (Tb.S.drop (Tb.S.drop (Tb.S.add (Tb.S.add Tb.S.new 7#64) 8#64) 0) 0) 1 5#64) 5 9#64 (by omega) (Tb.S.ok.lay (Tb.S.ok.drop (Tb.S.ok.drop (Tb.S.ok.add (Tb.S.ok.add Tb.S.ok.new 7#64) 8#64) 0) 0) 1 5#64) _ _ _ _ H))) (Sx.wanted_none rfl _) rfl (by decide) (fun v7 A w F (H : Sx.Own w0 _ [(true, g1, [v7, .int .i64 ((Tb.S.lay (Tb.S.lay (Tb.S.drop (Tb.S.drop (Tb.S.add (Tb.S.add Tb.S.new 7#64) 8#64) 0) 0) 1 5#64) 5 9#64).n)])] [⟨true, v7, 107, 2, (Tb.S.lay (Tb.S.lay (Tb.S.drop (Tb.S.drop (Tb.S.add (Tb.S.add Tb.S.new 7#64) 8#64) 0) 0) 1 5#64) 5 9#64).l.length, (Tb.cells (Tb.S.lay (Tb.S.lay (Tb.S.drop (Tb.S.drop (Tb.S.add (Tb.S.add Tb.S.new 7#64) 8#64) 0) 0) 1 5#64) 5 9#64).l)⟩]) => ?_)
  refine Sx.sv F (Sx.d_move F (Or.inr rfl) rfl) (Sx.wanted_none rfl _) rfl (by decide) (fun A F => ?_)
  refine Sx.nil ?_
  refine hK10 _ _ ?_
  refine Sx.seq (fun K11 hK11 => ?_)
  refine Sx.plain ?_
  refine Sx.sv F (Sx.d_move F (Or.inl rfl) rfl) (Sx.wanted_none rfl _) rfl (by decide) (fun A F => ?_)
  refine Sx.so (x := .int .i64 (Tb.S.goese (Tb.S.lay (Tb.S.lay (Tb.S.drop (Tb.S.drop (Tb.S.add (Tb.S.add Tb.S.new 7#64) 8#64) 0) 0) 1 5#64) 5 9#64) 5)) F (Sx.d_callO (vs := [.pointer (some ⟨g1, 0, none⟩), .int .i64 5]) if_65 F rfl rfl (Sx.oo (tgoes_k (Tb.S.lay (Tb.S.lay (Tb.S.drop (Tb.S.drop (Tb.S.add (Tb.S.add Tb.S.new 7#64) 8#64) 0) 0) 1 5#64) 5 9#64) 5 (Tb.S.ok.lay (Tb.S.ok.lay (Tb.S.ok.drop (Tb.S.ok.drop (Tb.S.ok.add (Tb.S.ok.add Tb.S.ok.new 7#64) 8#64) 0) 0) 1 5#64) 5 9#64) _ _ _ _ H))) (Sx.wanted_none rfl _) rfl (by decide) (fun v8 A w F (H : Sx.Own w0 _ [(true, g1, [v8, .int .i64 ((Tb.S.goes (Tb.S.lay (Tb.S.lay (Tb.S.drop (Tb.S.drop (Tb.S.add (Tb.S.add Tb.S.new 7#64) 8#64) 0) 0) 1 5#64) 5 9#64) 5).n)])] [⟨true, v8, 107, 2, (Tb.S.goes (Tb.S.lay (Tb.S.lay (Tb.S.drop (Tb.S.drop (Tb.S.add (Tb.S.add Tb.S.new 7#64) 8#64) 0) 0) 1 5#64) 5 9#64) 5).l.length, (Tb.cells (Tb.S.goes (Tb.S.lay (Tb.S.lay (Tb.S.drop (Tb.S.drop (Tb.S.add (Tb.S.add Tb.S.new 7#64) 8#64) 0) 0) 1 5#64) 5 9#64) 5).l)⟩]) => ?_)
  refine Sx.sv F (Sx.d_move F (Or.inr rfl) rfl) (Sx.wanted_none rfl _) rfl (by decide) (fun A F => ?_)
  refine Sx.nil ?_
  refine hK11 _ _ ?_
  refine Sx.seq (fun K12 hK12 => ?_)
  refine Sx.plain ?_
  refine Sx.sv F (Sx.d_move F (Or.inl rfl) rfl) (Sx.wanted_none rfl _) rfl (by decide) (fun A F => ?_)
  refine Sx.so (x := .int .i64 (Tb.S.goese (Tb.S.goes (Tb.S.lay (Tb.S.lay (Tb.S.drop (Tb.S.drop (Tb.S.add (Tb.S.add Tb.S.new 7#64) 8#64) 0) 0) 1 5#64) 5 9#64) 5) 8)) F (Sx.d_callO (vs := [.pointer (some ⟨g1, 0, none⟩), .int .i64 8]) if_65 F rfl rfl (Sx.oo (tgoes_k (Tb.S.goes (Tb.S.lay (Tb.S.lay (Tb.S.drop (Tb.S.drop (Tb.S.add (Tb.S.add Tb.S.new 7#64) 8#64) 0) 0) 1 5#64) 5 9#64) 5) 8 (Tb.S.ok.goes (Tb.S.ok.lay (Tb.S.ok.lay (Tb.S.ok.drop (Tb.S.ok.drop (Tb.S.ok.add (Tb.S.ok.add Tb.S.ok.new 7#64) 8#64) 0) 0) 1 5#64) 5 9#64) 5) _ _ _ _ H))) (Sx.wanted_none rfl _) rfl (by decide) (fun v9 A w F (H : Sx.Own w0 _ [(true, g1, [v9, .int .i64 ((Tb.S.goes (Tb.S.goes (Tb.S.lay (Tb.S.lay (Tb.S.drop (Tb.S.drop (Tb.S.add (Tb.S.add Tb.S.new 7#64) 8#64) 0) 0) 1 5#64) 5 9#64) 5) 8).n)])] [⟨true, v9, 107, 2, (Tb.S.goes (Tb.S.goes (Tb.S.lay (Tb.S.lay (Tb.S.drop (Tb.S.drop (Tb.S.add (Tb.S.add Tb.S.new 7#64) 8#64) 0) 0) 1 5#64) 5 9#64) 5) 8).l.length, (Tb.cells (Tb.S.goes (Tb.S.goes (Tb.S.lay (Tb.S.lay (Tb.S.drop (Tb.S.drop (Tb.S.add (Tb.S.add Tb.S.new 7#64) 8#64) 0) 0) 1 5#64) 5 9#64) 5) 8).l)⟩]) => ?_)
  refine Sx.sv F (Sx.d_move F (Or.inr rfl) rfl) (Sx.wanted_none rfl _) rfl (by decide) (fun A F => ?_)
  refine Sx.nil ?_
  refine hK12 _ _ ?_
  refine Sx.seq (fun K13 hK13 => ?_)
  refine Sx.plain ?_
  refine Sx.sv F (Sx.d_move F (Or.inl rfl) rfl) (Sx.wanted_none rfl _) rfl (by decide) (fun A F => ?_)
  refine Sx.sw F (Sx.d_call (vs := [.pointer (some ⟨g1, 0, none⟩), .int .i64 5]) (v := .tuple #[.int .u64 ((Tb.S.val (Tb.S.goes (Tb.S.goes (Tb.S.lay (Tb.S.lay (Tb.S.drop (Tb.S.drop (Tb.S.add (Tb.S.add Tb.S.new 7#64) 8#64) 0) 0) 1 5#64) 5 9#64) 5) 8) 5).toNat), .bool true]) if_43 F H rfl rfl (Calls.val (tget_c (Tb.S.goes (Tb.S.goes (Tb.S.lay (Tb.S.lay (Tb.S.drop (Tb.S.drop (Tb.S.add (Tb.S.add Tb.S.new 7#64) 8#64) 0) 0) 1 5#64) 5 9#64) 5) 8) (Tb.S.ok.goes (Tb.S.ok.goes (Tb.S.ok.lay (Tb.S.ok.lay (Tb.S.ok.drop (Tb.S.ok.drop (Tb.S.ok.add (Tb.S.ok.add Tb.S.ok.new 7#64) 8#64) 0) 0) 1 5#64) 5 9#64) 5) 8) 5 _ _ (Tb.See.own (i := 0) (j := 0) H rfl rfl)) rfl (by rw [show Tb.S.has (Tb.S.goes (Tb.S.goes (Tb.S.lay (Tb.S.lay (Tb.S.drop (Tb.S.drop (Tb.S.add (Tb.S.add Tb.S.new 7#64) 8#64) 0) 0) 1 5#64) 5 9#64) 5) 8) 5 = true from by kernel_rfl]))) (Sx.wanted_none rfl _) rfl (by decide) (fun A w F H => ?_)
  refine Sx.sv F (Sx.d_move F (Or.inl rfl) rfl) (Sx.wanted_none rfl _) rfl (by decide) (fun A F => ?_)
  refine Sx.sv F (Sx.d_extract (v := .int .u64 ((Tb.S.val (Tb.S.goes (Tb.S.goes (Tb.S.lay (Tb.S.lay (Tb.S.drop (Tb.S.drop (Tb.S.add (Tb.S.add Tb.S.new 7#64) 8#64) 0) 0) 1 5#64) 5 9#64) 5) 8) 5).toNat)) F rfl rfl rfl) (Sx.wanted_none rfl _) rfl (by decide) (fun A F => ?_)
  refine Sx.sv F (Sx.d_extract (v := .bool true) F rfl rfl rfl) (Sx.wanted_none rfl _) rfl (by decide) (fun A F => ?_)
  refine Sx.sv F (Sx.d_move F (Or.inr rfl) rfl) (Sx.wanted_none rfl _) rfl (by decide) (fun A F => ?_)
  refine Sx.sv F (Sx.d_move F (Or.inr rfl) rfl) (Sx.wanted_none rfl _) rfl (by decide) (fun A F => ?_)
  refine Sx.nil ?_
  refine hK13 _ _ ?_
  refine Sx.seq (fun K14 hK14 => ?_)
  refine Sx.plain ?_
  refine Sx.sv F (Sx.d_move F (Or.inl rfl) rfl) (Sx.wanted_none rfl _) rfl (by decide) (fun A F => ?_)
  refine Sx.sw F (Sx.d_call (vs := [.pointer (some ⟨g1, 0, none⟩), .int .i64 0]) (v := .tuple #[.int .u64 ((Tb.S.val (Tb.S.goes (Tb.S.goes (Tb.S.lay (Tb.S.lay (Tb.S.drop (Tb.S.drop (Tb.S.add (Tb.S.add Tb.S.new 7#64) 8#64) 0) 0) 1 5#64) 5 9#64) 5) 8) 0).toNat), .bool false]) if_43 F H rfl rfl (Calls.val (tget_c (Tb.S.goes (Tb.S.goes (Tb.S.lay (Tb.S.lay (Tb.S.drop (Tb.S.drop (Tb.S.add (Tb.S.add Tb.S.new 7#64) 8#64) 0) 0) 1 5#64) 5 9#64) 5) 8) (Tb.S.ok.goes (Tb.S.ok.goes (Tb.S.ok.lay (Tb.S.ok.lay (Tb.S.ok.drop (Tb.S.ok.drop (Tb.S.ok.add (Tb.S.ok.add Tb.S.ok.new 7#64) 8#64) 0) 0) 1 5#64) 5 9#64) 5) 8) 0 _ _ (Tb.See.own (i := 0) (j := 0) H rfl rfl)) rfl (by rw [show Tb.S.has (Tb.S.goes (Tb.S.goes (Tb.S.lay (Tb.S.lay (Tb.S.drop (Tb.S.drop (Tb.S.add (Tb.S.add Tb.S.new 7#64) 8#64) 0) 0) 1 5#64) 5 9#64) 5) 8) 0 = false from by kernel_rfl]))) (Sx.wanted_none rfl _) rfl (by decide) (fun A w F H => ?_)
  refine Sx.sv F (Sx.d_move F (Or.inl rfl) rfl) (Sx.wanted_none rfl _) rfl (by decide) (fun A F => ?_)
  refine Sx.sv F (Sx.d_extract (v := .int .u64 ((Tb.S.val (Tb.S.goes (Tb.S.goes (Tb.S.lay (Tb.S.lay (Tb.S.drop (Tb.S.drop (Tb.S.add (Tb.S.add Tb.S.new 7#64) 8#64) 0) 0) 1 5#64) 5 9#64) 5) 8) 0).toNat)) F rfl rfl rfl) (Sx.wanted_none rfl _) rfl (by decide) (fun A F => ?_)
  refine Sx.sv F (Sx.d_extract (v := .bool false) F rfl rfl rfl) (Sx.wanted_none rfl _) rfl (by decide) (fun A F => ?_)
  refine Sx.sv F (Sx.d_move F (Or.inr rfl) rfl) (Sx.wanted_none rfl _) rfl (by decide) (fun A F => ?_)
  refine Sx.sv F (Sx.d_move F (Or.inr rfl) rfl) (Sx.wanted_none rfl _) rfl (by decide) (fun A F => ?_)
  refine Sx.nil ?_
  refine hK14 _ _ ?_
  refine Sx.seq (fun K15 hK15 => ?_)
  refine Sx.plain ?_
  refine Sx.sv F (Sx.d_move F (Or.inl rfl) rfl) (Sx.wanted_none rfl _) rfl (by decide) (fun A F => ?_)
  refine Sx.sj F (Sx.d_callO (vs := [.pointer (some ⟨g1, 0, none⟩), .func (.func 66) #[] #[]]) if_50 F rfl rfl (Sx.jj H (tcopy_c (Tb.S.goes (Tb.S.goes (Tb.S.lay (Tb.S.lay (Tb.S.drop (Tb.S.drop (Tb.S.add (Tb.S.add Tb.S.new 7#64) 8#64) 0) 0) 1 5#64) 5 9#64) 5) 8) (Tb.S.ok.goes (Tb.S.ok.goes (Tb.S.ok.lay (Tb.S.ok.lay (Tb.S.ok.drop (Tb.S.ok.drop (Tb.S.ok.add (Tb.S.ok.add Tb.S.ok.new 7#64) 8#64) 0) 0) 1 5#64) 5 9#64) 5) 8) 66 (fun v => v + 1#64) if_66 (fun x w => tplus_c x w) _ _ (Tb.See.own (i := 0) (j := 0) H rfl rfl)))) (Sx.wanted_none rfl _) rfl (by decide) (fun g2 v10 A w F (H : Sx.Own w0 _ [(true, g2, [v10, .int .i64 ((Tb.S.map (Tb.S.goes (Tb.S.goes (Tb.S.lay (Tb.S.lay (Tb.S.drop (Tb.S.drop (Tb.S.add (Tb.S.add Tb.S.new 7#64) 8#64) 0) 0) 1 5#64) 5 9#64) 5) 8) (fun v => v + 1#64)).n)]), (true, g1, [v9, .int .i64 ((Tb.S.goes (Tb.S.goes (Tb.S.lay (Tb.S.lay (Tb.S.drop (Tb.S.drop (Tb.S.add (Tb.S.add Tb.S.new 7#64) 8#64) 0) 0) 1 5#64) 5 9#64) 5) 8).n)])] [⟨true, v10, 107, 2, (Tb.S.map (Tb.S.goes (Tb.S.goes (Tb.S.lay (Tb.S.lay (Tb.S.drop (Tb.S.drop (Tb.S.add (Tb.S.add Tb.S.new 7#64) 8#64) 0) 0) 1 5#64) 5 9#64) 5) 8) (fun v => v + 1#64)).l.length, (Tb.cells (Tb.S.map (Tb.S.goes (Tb.S.goes (Tb.S.lay (Tb.S.lay (Tb.S.drop (Tb.S.drop (Tb.S.add (Tb.S.add Tb.S.new 7#64) 8#64) 0) 0) 1 5#64) 5 9#64) 5) 8) (fun v => v + 1#64)).l)⟩, ⟨true, v9, 107, 2, (Tb.S.goes (Tb.S.goes (Tb.S.lay (Tb.S.lay (Tb.S.drop (Tb.S.drop (Tb.S.add (Tb.S.add Tb.S.new 7#64) 8#64) 0) 0) 1 5#64) 5 9#64) 5) 8).l.length, (Tb.cells (Tb.S.goes (Tb.S.goes (Tb.S.lay (Tb.S.lay (Tb.S.drop (Tb.S.drop (Tb.S.add (Tb.S.add Tb.S.new 7#64) 8#64) 0) 0) 1 5#64) 5 9#64) 5) 8).l)⟩]) => ?_)
  refine Sx.sv F (Sx.d_move F (Or.inr rfl) rfl) (Sx.wanted_none rfl _) rfl (by decide) (fun A F => ?_)
  refine Sx.nil ?_
  refine hK15 _ _ ?_
  refine Sx.seq (fun K16 hK16 => ?_)
  refine Sx.seq (fun K17 hK17 => ?_)
  refine Sx.plain ?_
  refine Sx.sv F (Sx.d_move F (Or.inl rfl) rfl) (Sx.wanted_none rfl _) rfl (by decide) (fun A F => ?_)
  refine Sx.sv F (Sx.d_bin (v := .bool false) F rfl rfl rfl Sx.pnil) (Sx.wanted_none rfl _) rfl (by decide) (fun A F => ?_)
  refine Sx.nil ?_
  refine hK17 _ _ ?_
  refine Sx.condF F rfl ?_
  refine wp_skip ?_
  refine hK16 _ _ ?_
  refine Sx.seq (fun K18 hK18 => ?_)
  refine Sx.plain ?_
  refine Sx.sv F (Sx.d_move F (Or.inl rfl) rfl) (Sx.wanted_none rfl _) rfl (by decide) (fun A F => ?_)
  refine Sx.sw F (Sx.d_call (vs := [.pointer (some ⟨g2, 0, none⟩), .int .i64 1]) (v := .tuple #[.int .u64 ((Tb.S.val (Tb.S.map (Tb.S.goes (Tb.S.goes (Tb.S.lay (Tb.S.lay (Tb.S.drop (Tb.S.drop (Tb.S.add (Tb.S.add Tb.S.new 7#64) 8#64) 0) 0) 1 5#64) 5 9#64) 5) 8) (fun v => v + 1#64)) 1).toNat), .bool true]) if_43 F H rfl rfl (Calls.val (tget_c (Tb.S.map (Tb.S.goes (Tb.S.goes (Tb.S.lay (Tb.S.lay (Tb.S.drop (Tb.S.drop (Tb.S.add (Tb.S.add Tb.S.new 7#64) 8#64) 0) 0) 1 5#64) 5 9#64) 5) 8) (fun v => v + 1#64)) (Tb.S.ok.map (Tb.S.ok.goes (Tb.S.ok.goes (Tb.S.ok.lay (Tb.S.ok.lay (Tb.S.ok.drop (Tb.S.ok.drop (Tb.S.ok.add (Tb.S.ok.add Tb.S.ok.new 7#64) 8#64) 0) 0) 1 5#64) 5 9#64) 5) 8) (fun v => v + 1#64)) 1 _ _ (Tb.See.own (i := 0) (j := 0) H rfl rfl)) rfl (by rw [show Tb.S.has (Tb.S.map (Tb.S.goes (Tb.S.goes (Tb.S.lay (Tb.S.lay (Tb.S.drop (Tb.S.drop (Tb.S.add (Tb.S.add Tb.S.new 7#64) 8#64) 0) 0) 1 5#64) 5 9#64) 5) 8) (fun v => v + 1#64)) 1 = true from by kernel_rfl]))) (Sx.wanted_none rfl _) rfl (by decide) (fun A w F H => ?_)
  refine Sx.sv F (Sx.d_move F (Or.inl rfl) rfl) (Sx.wanted_none rfl _) rfl (by decide) (fun A F => ?_)
  refine Sx.sv F (Sx.d_extract (v := .int .u64 ((Tb.S.val (Tb.S.map (Tb.S.goes (Tb.S.goes (Tb.S.lay (Tb.S.lay (Tb.S.drop (Tb.S.drop (Tb.S.add (Tb.S.add Tb.S.new 7#64) 8#64) 0) 0) 1 5#64) 5 9#64) 5) 8) (fun v => v + 1#64)) 1).toNat)) F rfl rfl rfl) (Sx.wanted_none rfl _) rfl (by decide) (fun A F => ?_)
  refine Sx.sv F (Sx.d_extract (v := .bool true) F rfl rfl rfl) (Sx.wanted_none rfl _) rfl (by decide) (fun A F => ?_)
  refine Sx.sv F (Sx.d_move F (Or.inr rfl) rfl) (Sx.wanted_none rfl _) rfl (by decide) (fun A F => ?_)
  refine Sx.sv F (Sx.d_move F (Or.inr rfl) rfl) (Sx.wanted_none rfl _) rfl (by decide) (fun A F => ?_)
  refine Sx.nil ?_
  refine hK18 _ _ ?_
  refine Sx.seq (fun K19 hK19 => ?_)
  refine Sx.seq (fun K20 hK20 => ?_)
  refine Sx.plain ?_
  refine Sx.sv F (Sx.d_move F (Or.inl rfl) rfl) (Sx.wanted_none rfl _) rfl (by decide) (fun A F => ?_)
  refine Sx.nil ?_
  refine hK20 _ _ ?_
  refine wp_block ?_
  refine Sx.loop (fun q A w => ∃ (i : Nat) (v : Value), q = 14 - i ∧ i ≤ 14 ∧ Sx.Fr 143 A [(0, .bool false), (21, .pointer (some ⟨g1, 0, none⟩)), (1, .pointer (some ⟨g1, 0, none⟩)), (22, .pointer (some ⟨g1, 0, none⟩)), (23, .bool false), (25, .pointer (some ⟨g1, 0, none⟩)), (26, .tuple #[.int .i64 (Tb.S.addh Tb.S.new), .int .i64 (Tb.S.adde Tb.S.new)]), (24, .tuple #[.int .i64 (Tb.S.addh Tb.S.new), .int .i64 (Tb.S.adde Tb.S.new)]), (27, .int .i64 (Tb.S.addh Tb.S.new)), (28, .int .i64 (Tb.S.adde Tb.S.new)), (2, .int .i64 (Tb.S.addh Tb.S.new)), (3, .int .i64 (Tb.S.adde Tb.S.new)), (30, .pointer (some ⟨g1, 0, none⟩)), (31, .tuple #[.int .i64 (Tb.S.addh (Tb.S.add Tb.S.new 7#64)), .int .i64 (Tb.S.adde (Tb.S.add Tb.S.new 7#64))]), (29, .tuple #[.int .i64 (Tb.S.addh (Tb.S.add Tb.S.new 7#64)), .int .i64 (Tb.S.adde (Tb.S.add Tb.S.new 7#64))]), (32, .int .i64 (Tb.S.addh (Tb.S.add Tb.S.new 7#64))), (33, .int .i64 (Tb.S.adde (Tb.S.add Tb.S.new 7#64))), (4, .int .i64 (Tb.S.addh (Tb.S.add Tb.S.new 7#64))), (5, .int .i64 (Tb.S.adde (Tb.S.add Tb.S.new 7#64))), (34, .pointer (some ⟨g1, 0, none⟩)), (35, .bool true), (6, .bool true), (36, .pointer (some ⟨g1, 0, none⟩)), (37, .bool false), (7, .bool false), (38, .pointer (some ⟨g1, 0, none⟩)), (39, .int .i64 (Tb.S.laye (Tb.S.drop (Tb.S.drop (Tb.S.add (Tb.S.add Tb.S.new 7#64) 8#64) 0) 0) 1)), (8, .int .i64 (Tb.S.laye (Tb.S.drop (Tb.S.drop (Tb.S.add (Tb.S.add Tb.S.new 7#64) 8#64) 0) 0) 1)), (40, .pointer (some ⟨g1, 0, none⟩)), (41, .int .i64 (Tb.S.laye (Tb.S.lay (Tb.S.drop (Tb.S.drop (Tb.S.add (Tb.S.add Tb.S.new 7#64) 8#64) 0) 0) 1 5#64) 5)), (9, .int .i64 (Tb.S.laye (Tb.S.lay (Tb.S.drop (Tb.S.drop (Tb.S.add (Tb.S.add Tb.S.new 7#64) 8#64) 0) 0) 1 5#64) 5)), (42, .pointer (some ⟨g1, 0, none⟩)), (43, .int .i64 (Tb.S.goese (Tb.S.lay (Tb.S.lay (Tb.S.drop (Tb.S.drop (Tb.S.add (Tb.S.add Tb.S.new 7#64) 8#64) 0) 0) 1 5#64) 5 9#64) 5)), (10, .int .i64 (Tb.S.goese (Tb.S.lay (Tb.S.lay (Tb.S.drop (Tb.S.drop (Tb.S.add (Tb.S.add Tb.S.new 7#64) 8#64) 0) 0) 1 5#64) 5 9#64) 5)), (44, .pointer (some ⟨g1, 0, none⟩)), (45, .int .i64 (Tb.S.goese (Tb.S.goes (Tb.S.lay (Tb.S.lay (Tb.S.drop (Tb.S.drop (Tb.S.add (Tb.S.add Tb.S.new 7#64) 8#64) 0) 0) 1 5#64) 5 9#64) 5) 8)), (11, .int .i64 (Tb.S.goese (Tb.S.goes (Tb.S.lay (Tb.S.lay (Tb.S.drop (Tb.S.drop (Tb.S.add (Tb.S.add Tb.S.new 7#64) 8#64) 0) 0) 1 5#64) 5 9#64) 5) 8)), (47, .pointer (some ⟨g1, 0, none⟩)), (48, .tuple #[.int .u64 ((Tb.S.val (Tb.S.goes (Tb.S.goes (Tb.S.lay (Tb.S.lay (Tb.S.drop (Tb.S.drop (Tb.S.add (Tb.S.add Tb.S.new 7#64) 8#64) 0) 0) 1 5#64) 5 9#64) 5) 8) 5).toNat), .bool true]), (46, .tuple #[.int .u64 ((Tb.S.val (Tb.S.goes (Tb.S.goes (Tb.S.lay (Tb.S.lay (Tb.S.drop (Tb.S.drop (Tb.S.add (Tb.S.add Tb.S.new 7#64) 8#64) 0) 0) 1 5#64) 5 9#64) 5) 8) 5).toNat), .bool true]), (49, .int .u64 ((Tb.S.val (Tb.S.goes (Tb.S.goes (Tb.S.lay (Tb.S.lay (Tb.S.drop (Tb.S.drop (Tb.S.add (Tb.S.add Tb.S.new 7#64) 8#64) 0) 0) 1 5#64) 5 9#64) 5) 8) 5).toNat)), (50, .bool true), (12, .int .u64 ((Tb.S.val (Tb.S.goes (Tb.S.goes (Tb.S.lay (Tb.S.lay (Tb.S.drop (Tb.S.drop (Tb.S.add (Tb.S.add Tb.S.new 7#64) 8#64) 0) 0) 1 5#64) 5 9#64) 5) 8) 5).toNat)), (13, .bool true), (52, .pointer (some ⟨g1, 0, none⟩)), (53, .tuple #[.int .u64 ((Tb.S.val (Tb.S.goes (Tb.S.goes (Tb.S.lay (Tb.S.lay (Tb.S.drop (Tb.S.drop (Tb.S.add (Tb.S.add Tb.S.new 7#64) 8#64) 0) 0) 1 5#64) 5 9#64) 5) 8) 0).toNat), .bool false]), (51, .tuple #[.int .u64 ((Tb.S.val (Tb.S.goes (Tb.S.goes (Tb.S.lay (Tb.S.lay (Tb.S.drop (Tb.S.drop (Tb.S.add (Tb.S.add Tb.S.new 7#64) 8#64) 0) 0) 1 5#64) 5 9#64) 5) 8) 0).toNat), .bool false]), (54, .int .u64 ((Tb.S.val (Tb.S.goes (Tb.S.goes (Tb.S.lay (Tb.S.lay (Tb.S.drop (Tb.S.drop (Tb.S.add (Tb.S.add Tb.S.new 7#64) 8#64) 0) 0) 1 5#64) 5 9#64) 5) 8) 0).toNat)), (55, .bool false), (14, .int .u64 ((Tb.S.val (Tb.S.goes (Tb.S.goes (Tb.S.lay (Tb.S.lay (Tb.S.drop (Tb.S.drop (Tb.S.add (Tb.S.add Tb.S.new 7#64) 8#64) 0) 0) 1 5#64) 5 9#64) 5) 8) 0).toNat)), (15, .bool false), (56, .pointer (some ⟨g1, 0, none⟩)), (57, .pointer (some ⟨g2, 0, none⟩)), (16, .pointer (some ⟨g2, 0, none⟩)), (58, .pointer (some ⟨g2, 0, none⟩)), (59, .bool false), (61, .pointer (some ⟨g2, 0, none⟩)), (62, .tuple #[.int .u64 ((Tb.S.val (Tb.S.map (Tb.S.goes (Tb.S.goes (Tb.S.lay (Tb.S.lay (Tb.S.drop (Tb.S.drop (Tb.S.add (Tb.S.add Tb.S.new 7#64) 8#64) 0) 0) 1 5#64) 5 9#64) 5) 8) (fun v => v + 1#64)) 1).toNat), .bool true]), (60, .tuple #[.int .u64 ((Tb.S.val (Tb.S.map (Tb.S.goes (Tb.S.goes (Tb.S.lay (Tb.S.lay (Tb.S.drop (Tb.S.drop (Tb.S.add (Tb.S.add Tb.S.new 7#64) 8#64) 0) 0) 1 5#64) 5 9#64) 5) 8) (fun v => v + 1#64)) 1).toNat), .bool true]), (63, .int .u64 ((Tb.S.val (Tb.S.map (Tb.S.goes (Tb.S.goes (Tb.S.lay (Tb.S.lay (Tb.S.drop (Tb.S.drop (Tb.S.add (Tb.S.add Tb.S.new 7#64) 8#64) 0) 0) 1 5#64) 5 9#64) 5) 8) (fun v => v + 1#64)) 1).toNat)), (64, .bool true), (17, .int .u64 ((Tb.S.val (Tb.S.map (Tb.S.goes (Tb.S.goes (Tb.S.lay (Tb.S.lay (Tb.S.drop (Tb.S.drop (Tb.S.add (Tb.S.add Tb.S.new 7#64) 8#64) 0) 0) 1 5#64) 5 9#64) 5) 8) (fun v => v + 1#64)) 1).toNat)), (18, .bool true), (65, .int .i64 i)] ∧ Sx.Own w0 w [(true, g1, [v, .int .i64 ((Tb.adds Tb.aw i).n)]), (true, g2, [v10, .int .i64 ((Tb.S.map (Tb.S.goes (Tb.S.goes (Tb.S.lay (Tb.S.lay (Tb.S.drop (Tb.S.drop (Tb.S.add (Tb.S.add Tb.S.new 7#64) 8#64) 0) 0) 1 5#64) 5 9#64) 5) 8) (fun v => v + 1#64)).n)])] [⟨true, v, 107, 2, (Tb.adds Tb.aw i).l.length, (Tb.cells (Tb.adds Tb.aw i).l)⟩, ⟨true, v10, 107, 2, (Tb.S.map (Tb.S.goes (Tb.S.goes (Tb.S.lay (Tb.S.lay (Tb.S.drop (Tb.S.drop (Tb.S.add (Tb.S.add Tb.S.new 7#64) 8#64) 0) 0) 1 5#64) 5 9#64) 5) 8) (fun v => v + 1#64)).l.length, (Tb.cells (Tb.S.map (Tb.S.goes (Tb.S.goes (Tb.S.lay (Tb.S.lay (Tb.S.drop (Tb.S.drop (Tb.S.add (Tb.S.add Tb.S.new 7#64) 8#64) 0) 0) 1 5#64) 5 9#64) 5) 8) (fun v => v + 1#64)).l)⟩]) 14 ⟨0, v9, rfl, Nat.zero_le _, F.to ⟨rfl, rfl, rfl, rfl, rfl, rfl, rfl, rfl, rfl, rfl, rfl, rfl, rfl, rfl, rfl, rfl, rfl, rfl, rfl, rfl, rfl, rfl, rfl, rfl, rfl, rfl, rfl, rfl, rfl, rfl, rfl, rfl, rfl, rfl, rfl, rfl, rfl, rfl, rfl, rfl, rfl, rfl, rfl, rfl, rfl, rfl, rfl, rfl, rfl, rfl, rfl, rfl, rfl, rfl, rfl, rfl, rfl, rfl, rfl, rfl, rfl, rfl, rfl, rfl, trivial⟩, H.to' [1, 0] [1, 0] (by decide) (by decide) rfl rfl⟩ ?_
  rintro q A w ⟨i, v, rfl, hi, F, H⟩
  by_cases hlt : i < 14
  · skip
    refine Sx.seq (fun K21 hK21 => ?_)
    refine Sx.plain ?_
    refine Sx.sv F (Sx.d_bin (v := .bool true) F rfl rfl rfl (Sx.i_lt (decide_eq_true (by omega)))) (Sx.wanted_none rfl _) rfl (by decide) (fun A F => ?_)
    refine Sx.nil ?_
    refine hK21 _ _ ?_
    refine Sx.seq (fun K22 hK22 => ?_)
    refine Sx.condT F rfl ?_
    refine wp_skip ?_
    refine hK22 _ _ ?_
    refine Sx.seq (fun K23 hK23 => ?_)
    refine wp_block ?_
    refine Sx.plain ?_
    refine Sx.sv F (Sx.d_move F (Or.inl rfl) rfl) (Sx.wanted_none rfl _) rfl (by decide) (fun A F => ?_)
    refine Sx.so (x := .tuple #[.int .i64 (Tb.S.addh (Tb.adds Tb.aw i)), .int .i64 (Tb.S.adde (Tb.adds Tb.aw i))]) F (Sx.d_callO (vs := [.pointer (some ⟨g1, 0, none⟩), .int .u64 1]) if_62 F rfl rfl (Sx.oo (tadd_k (Tb.adds Tb.aw i) 1#64 (Tb.adds_ok Tb.aw_ok i) _ _ _ _ H))) (Sx.wanted_none rfl _) rfl (by decide) (fun v11 A w F (H : Sx.Own w0 _ [(true, g1, [v11, .int .i64 ((Tb.S.add (Tb.adds Tb.aw i) 1#64).n)]), (true, g2, [v10, .int .i64 ((Tb.S.map (Tb.S.goes (Tb.S.goes (Tb.S.lay (Tb.S.lay (Tb.S.drop (Tb.S.drop (Tb.S.add (Tb.S.add Tb.S.new 7#64) 8#64) 0) 0) 1 5#64) 5 9#64) 5) 8) (fun v => v + 1#64)).n)])] [⟨true, v11, 107, 2, (Tb.S.add (Tb.adds Tb.aw i) 1#64).l.length, (Tb.cells (Tb.S.add (Tb.adds Tb.aw i) 1#64).l)⟩, ⟨true, v10, 107, 2, (Tb.S.map (Tb.S.goes (Tb.S.goes (Tb.S.lay (Tb.S.lay (Tb.S.drop (Tb.S.drop (Tb.S.add (Tb.S.add Tb.S.new 7#64) 8#64) 0) 0) 1 5#64) 5 9#64) 5) 8) (fun v => v + 1#64)).l.length, (Tb.cells (Tb.S.map (Tb.S.goes (Tb.S.goes (Tb.S.lay (Tb.S.lay (Tb.S.drop (Tb.S.drop (Tb.S.add (Tb.S.add Tb.S.new 7#64) 8#64) 0) 0) 1 5#64) 5 9#64) 5) 8) (fun v => v + 1#64)).l)⟩]) => ?_)
    refine Sx.nil ?_
    refine hK23 _ _ ?_
    refine Sx.plain ?_
    refine Sx.sv F (Sx.d_bin (v := .int .i64 (i + 1 : Nat)) F rfl rfl rfl (Sx.i_addN rfl (Sx.in_i64 _ (by omega)))) (Sx.wanted_none rfl _) rfl (by decide) (fun A F => ?_)
    refine Sx.sv F (Sx.d_move F (Or.inl rfl) rfl) (Sx.wanted_none rfl _) rfl (by decide) (fun A F => ?_)
    refine Sx.nil ?_
    try dsimp only [Exit.then]
    exact ⟨14 - (i + 1), by omega, i + 1, v11, rfl, by omega, F.to ⟨rfl, rfl, rfl, rfl, rfl, rfl, rfl, rfl, rfl, rfl, rfl, rfl, rfl, rfl, rfl, rfl, rfl, rfl, rfl, rfl, rfl, rfl, rfl, rfl, rfl, rfl, rfl, rfl, rfl, rfl, rfl, rfl, rfl, rfl, rfl, rfl, rfl, rfl, rfl, rfl, rfl, rfl, rfl, rfl, rfl, rfl, rfl, rfl, rfl, rfl, rfl, rfl, rfl, rfl, rfl, rfl, rfl, rfl, rfl, rfl, rfl, rfl, rfl, rfl, trivial⟩, H⟩
  · obtain rfl : i = 14 := by omega
    refine Sx.seq (fun K24 hK24 => ?_)
    refine Sx.plain ?_
    refine Sx.sv F (Sx.d_bin (v := .bool false) F rfl rfl rfl (Sx.i_lt (by decide))) (Sx.wanted_none rfl _) rfl (by decide) (fun A F => ?_)
    refine Sx.nil ?_
    refine hK24 _ _ ?_
    refine Sx.seq (fun K25 hK25 => ?_)
    refine Sx.condF F rfl ?_
    refine wp_exit ?_
    try dsimp only [Exit.then, Exit.jump]
    refine Sx.exit_here ?_
    refine hK19 _ _ ?_
    refine Sx.seq (fun K26 hK26 => ?_)
    refine Sx.plain ?_
    refine Sx.sv F (Sx.d_move F (Or.inl rfl) rfl) (Sx.wanted_none rfl _) rfl (by decide) (fun A F => ?_)
    refine Sx.so (x := .tuple #[.int .i64 (Tb.S.addh (Tb.adds Tb.aw 14)), .int .i64 (Tb.S.adde (Tb.adds Tb.aw 14))]) F (Sx.d_callO (vs := [.pointer (some ⟨g1, 0, none⟩), .int .u64 1]) if_62 F rfl rfl (Sx.oo (tadd_k (Tb.adds Tb.aw 14) 1#64 (Tb.adds_ok Tb.aw_ok 14) _ _ _ _ H))) (Sx.wanted_none rfl _) rfl (by decide) (fun v12 A w F (H : Sx.Own w0 _ [(true, g1, [v12, .int .i64 ((Tb.S.add (Tb.adds Tb.aw 14) 1#64).n)]), (true, g2, [v10, .int .i64 ((Tb.S.map (Tb.S.goes (Tb.S.goes (Tb.S.lay (Tb.S.lay (Tb.S.drop (Tb.S.drop (Tb.S.add (Tb.S.add Tb.S.new 7#64) 8#64) 0) 0) 1 5#64) 5 9#64) 5) 8) (fun v => v + 1#64)).n)])] [⟨true, v12, 107, 2, (Tb.S.add (Tb.adds Tb.aw 14) 1#64).l.length, (Tb.cells (Tb.S.add (Tb.adds Tb.aw 14) 1#64).l)⟩, ⟨true, v10, 107, 2, (Tb.S.map (Tb.S.goes (Tb.S.goes (Tb.S.lay (Tb.S.lay (Tb.S.drop (Tb.S.drop (Tb.S.add (Tb.S.add Tb.S.new 7#64) 8#64) 0) 0) 1 5#64) 5 9#64) 5) 8) (fun v => v + 1#64)).l.length, (Tb.cells (Tb.S.map (Tb.S.goes (Tb.S.goes (Tb.S.lay (Tb.S.lay (Tb.S.drop (Tb.S.drop (Tb.S.add (Tb.S.add Tb.S.new 7#64) 8#64) 0) 0) 1 5#64) 5 9#64) 5) 8) (fun v => v + 1#64)).l)⟩]) => ?_)
    refine Sx.sv F (Sx.d_move F (Or.inl rfl) rfl) (Sx.wanted_none rfl _) rfl (by decide) (fun A F => ?_)
    refine Sx.sv F (Sx.d_extract (v := .int .i64 (Tb.S.addh (Tb.adds Tb.aw 14))) F rfl rfl rfl) (Sx.wanted_none rfl _) rfl (by decide) (fun A F => ?_)
    refine Sx.sv F (Sx.d_extract (v := .int .i64 (Tb.S.adde (Tb.adds Tb.aw 14))) F rfl rfl rfl) (Sx.wanted_none rfl _) rfl (by decide) (fun A F => ?_)
    refine Sx.sv F (Sx.d_move F (Or.inr rfl) rfl) (Sx.wanted_none rfl _) rfl (by decide) (fun A F => ?_)
    refine Sx.sv F (Sx.d_move F (Or.inr rfl) rfl) (Sx.wanted_none rfl _) rfl (by decide) (fun A F => ?_)
    refine Sx.nil ?_
    refine hK26 _ _ ?_
    refine Sx.seq (fun K27 hK27 => ?_)
    refine Sx.plain ?_
    refine Sx.sv F (Sx.d_move F (Or.inl rfl) rfl) (Sx.wanted_none rfl _) rfl (by decide) (fun A F => ?_)
    refine Sx.sv F (Sx.d_bin (v := .bool true) F rfl rfl rfl (Sx.i_eq (by kernel_rfl))) (Sx.wanted_none rfl _) rfl (by decide) (fun A F => ?_)
    refine Sx.sv F (Sx.d_move F (Or.inl rfl) rfl) (Sx.wanted_none rfl _) rfl (by decide) (fun A F => ?_)
    refine Sx.sv F (Sx.d_move F (Or.inl rfl) rfl) (Sx.wanted_on rfl (Sx.guard_known (d := 77) (b := true) F rfl rfl) rfl) rfl (by decide) (fun A F => ?_)
    refine Sx.sv F (Sx.d_bin (v := .bool true) F rfl rfl rfl (Sx.i_eq (by kernel_rfl))) (Sx.wanted_on rfl (Sx.guard_known (d := 77) (b := true) F rfl rfl) rfl) rfl (by decide) (fun A F => ?_)
    refine Sx.sv F (Sx.d_pickT (v := .bool true) F rfl rfl rfl) (Sx.wanted_none rfl _) rfl (by decide) (fun A F => ?_)
    refine Sx.sv F (Sx.d_move F (Or.inl rfl) rfl) (Sx.wanted_none rfl _) rfl (by decide) (fun A F => ?_)
    refine Sx.sv F (Sx.d_move F (Or.inl rfl) rfl) (Sx.wanted_on rfl (Sx.guard_known (d := 81) (b := true) F rfl rfl) rfl) rfl (by decide) (fun A F => ?_)
    refine Sx.sv F (Sx.d_bin (v := .bool true) F rfl rfl rfl (Sx.i_eq (by kernel_rfl))) (Sx.wanted_on rfl (Sx.guard_known (d := 81) (b := true) F rfl rfl) rfl) rfl (by decide) (fun A F => ?_)
    refine Sx.sv F (Sx.d_pickT (v := .bool true) F rfl rfl rfl) (Sx.wanted_none rfl _) rfl (by decide) (fun A F => ?_)
    refine Sx.sv F (Sx.d_move F (Or.inl rfl) rfl) (Sx.wanted_none rfl _) rfl (by decide) (fun A F => ?_)
    refine Sx.sv F (Sx.d_move F (Or.inl rfl) rfl) (Sx.wanted_on rfl (Sx.guard_known (d := 85) (b := true) F rfl rfl) rfl) rfl (by decide) (fun A F => ?_)
    refine Sx.sv F (Sx.d_pickT (v := .bool true) F rfl rfl rfl) (Sx.wanted_none rfl _) rfl (by decide) (fun A F => ?_)
    refine Sx.sv F (Sx.d_move F (Or.inl rfl) rfl) (Sx.wanted_none rfl _) rfl (by decide) (fun A F => ?_)
    refine Sx.sv F (Sx.d_move F (Or.inl rfl) rfl) (Sx.wanted_on rfl (Sx.guard_known (d := 88) (b := true) F rfl rfl) rfl) rfl (by decide) (fun A F => ?_)
    refine Sx.sv F (Sx.d_un (v := .bool true) F rfl rfl rfl) (Sx.wanted_on rfl (Sx.guard_known (d := 88) (b := true) F rfl rfl) rfl) rfl (by decide) (fun A F => ?_)
    refine Sx.sv F (Sx.d_pickT (v := .bool true) F rfl rfl rfl) (Sx.wanted_none rfl _) rfl (by decide) (fun A F => ?_)
    refine Sx.sv F (Sx.d_move F (Or.inl rfl) rfl) (Sx.wanted_none rfl _) rfl (by decide) (fun A F => ?_)
    refine Sx.sv F (Sx.d_move F (Or.inl rfl) rfl) (Sx.wanted_on rfl (Sx.guard_known (d := 92) (b := true) F rfl rfl) rfl) rfl (by decide) (fun A F => ?_)
    refine Sx.sv F (Sx.d_bin (v := .bool true) F rfl rfl rfl (Sx.i_eq (by kernel_rfl))) (Sx.wanted_on rfl (Sx.guard_known (d := 92) (b := true) F rfl rfl) rfl) rfl (by decide) (fun A F => ?_)
    refine Sx.sv F (Sx.d_pickT (v := .bool true) F rfl rfl rfl) (Sx.wanted_none rfl _) rfl (by decide) (fun A F => ?_)
    refine Sx.sv F (Sx.d_move F (Or.inl rfl) rfl) (Sx.wanted_none rfl _) rfl (by decide) (fun A F => ?_)
    refine Sx.sv F (Sx.d_move F (Or.inl rfl) rfl) (Sx.wanted_on rfl (Sx.guard_known (d := 96) (b := true) F rfl rfl) rfl) rfl (by decide) (fun A F => ?_)
    refine Sx.sv F (Sx.d_bin (v := .bool true) F rfl rfl rfl (Sx.i_eq (by kernel_rfl))) (Sx.wanted_on rfl (Sx.guard_known (d := 96) (b := true) F rfl rfl) rfl) rfl (by decide) (fun A F => ?_)
    refine Sx.sv F (Sx.d_pickT (v := .bool true) F rfl rfl rfl) (Sx.wanted_none rfl _) rfl (by decide) (fun A F => ?_)
    refine Sx.sv F (Sx.d_move F (Or.inl rfl) rfl) (Sx.wanted_none rfl _) rfl (by decide) (fun A F => ?_)
    refine Sx.sv F (Sx.d_move F (Or.inl rfl) rfl) (Sx.wanted_on rfl (Sx.guard_known (d := 100) (b := true) F rfl rfl) rfl) rfl (by decide) (fun A F => ?_)
    refine Sx.sv F (Sx.d_bin (v := .bool true) F rfl rfl rfl (Sx.i_eq (by kernel_rfl))) (Sx.wanted_on rfl (Sx.guard_known (d := 100) (b := true) F rfl rfl) rfl) rfl (by decide) (fun A F => ?_)
    refine Sx.sv F (Sx.d_pickT (v := .bool true) F rfl rfl rfl) (Sx.wanted_none rfl _) rfl (by decide) (fun A F => ?_)
    refine Sx.sv F (Sx.d_move F (Or.inl rfl) rfl) (Sx.wanted_none rfl _) rfl (by decide) (fun A F => ?_)
    refine Sx.sv F (Sx.d_move F (Or.inl rfl) rfl) (Sx.wanted_on rfl (Sx.guard_known (d := 104) (b := true) F rfl rfl) rfl) rfl (by decide) (fun A F => ?_)
    refine Sx.sv F (Sx.d_bin (v := .bool true) F rfl rfl rfl (Sx.i_eq (by kernel_rfl))) (Sx.wanted_on rfl (Sx.guard_known (d := 104) (b := true) F rfl rfl) rfl) rfl (by decide) (fun A F => ?_)
    refine Sx.sv F (Sx.d_pickT (v := .bool true) F rfl rfl rfl) (Sx.wanted_none rfl _) rfl (by decide) (fun A F => ?_)
    refine Sx.sv F (Sx.d_move F (Or.inl rfl) rfl) (Sx.wanted_none rfl _) rfl (by decide) (fun A F => ?_)
    refine Sx.sv F (Sx.d_move F (Or.inl rfl) rfl) (Sx.wanted_on rfl (Sx.guard_known (d := 108) (b := true) F rfl rfl) rfl) rfl (by decide) (fun A F => ?_)
    refine Sx.sv F (Sx.d_bin (v := .bool true) F rfl rfl rfl (Sx.i_eq (by kernel_rfl))) (Sx.wanted_on rfl (Sx.guard_known (d := 108) (b := true) F rfl rfl) rfl) rfl (by decide) (fun A F => ?_)
    refine Sx.sv F (Sx.d_pickT (v := .bool true) F rfl rfl rfl) (Sx.wanted_none rfl _) rfl (by decide) (fun A F => ?_)
    refine Sx.sv F (Sx.d_move F (Or.inl rfl) rfl) (Sx.wanted_none rfl _) rfl (by decide) (fun A F => ?_)
    refine Sx.sv F (Sx.d_move F (Or.inl rfl) rfl) (Sx.wanted_on rfl (Sx.guard_known (d := 112) (b := true) F rfl rfl) rfl) rfl (by decide) (fun A F => ?_)
    refine Sx.sv F (Sx.d_pickT (v := .bool true) F rfl rfl rfl) (Sx.wanted_none rfl _) rfl (by decide) (fun A F => ?_)
    refine Sx.sv F (Sx.d_move F (Or.inl rfl) rfl) (Sx.wanted_none rfl _) rfl (by decide) (fun A F => ?_)
    refine Sx.sv F (Sx.d_move F (Or.inl rfl) rfl) (Sx.wanted_on rfl (Sx.guard_known (d := 115) (b := true) F rfl rfl) rfl) rfl (by decide) (fun A F => ?_)
    refine Sx.sv F (Sx.d_un (v := .bool true) F rfl rfl rfl) (Sx.wanted_on rfl (Sx.guard_known (d := 115) (b := true) F rfl rfl) rfl) rfl (by decide) (fun A F => ?_)
    refine Sx.sv F (Sx.d_pickT (v := .bool true) F rfl rfl rfl) (Sx.wanted_none rfl _) rfl (by decide) (fun A F => ?_)
    refine Sx.sv F (Sx.d_move F (Or.inl rfl) rfl) (Sx.wanted_none rfl _) rfl (by decide) (fun A F => ?_)
    refine Sx.sv F (Sx.d_move F (Or.inl rfl) rfl) (Sx.wanted_on rfl (Sx.guard_known (d := 119) (b := true) F rfl rfl) rfl) rfl (by decide) (fun A F => ?_)
    refine Sx.sv F (Sx.d_bin (v := .bool true) F rfl rfl rfl (Sx.i_eq (by kernel_rfl))) (Sx.wanted_on rfl (Sx.guard_known (d := 119) (b := true) F rfl rfl) rfl) rfl (by decide) (fun A F => ?_)
    refine Sx.sv F (Sx.d_pickT (v := .bool true) F rfl rfl rfl) (Sx.wanted_none rfl _) rfl (by decide) (fun A F => ?_)
    refine Sx.sv F (Sx.d_move F (Or.inl rfl) rfl) (Sx.wanted_none rfl _) rfl (by decide) (fun A F => ?_)
    refine Sx.sv F (Sx.d_move F (Or.inl rfl) rfl) (Sx.wanted_on rfl (Sx.guard_known (d := 123) (b := true) F rfl rfl) rfl) rfl (by decide) (fun A F => ?_)
    refine Sx.sv F (Sx.d_bin (v := .bool true) F rfl rfl rfl (Sx.i_eq (by kernel_rfl))) (Sx.wanted_on rfl (Sx.guard_known (d := 123) (b := true) F rfl rfl) rfl) rfl (by decide) (fun A F => ?_)
    refine Sx.sv F (Sx.d_pickT (v := .bool true) F rfl rfl rfl) (Sx.wanted_none rfl _) rfl (by decide) (fun A F => ?_)
    refine Sx.sv F (Sx.d_move F (Or.inl rfl) rfl) (Sx.wanted_none rfl _) rfl (by decide) (fun A F => ?_)
    refine Sx.sv F (Sx.d_move F (Or.inl rfl) rfl) (Sx.wanted_on rfl (Sx.guard_known (d := 127) (b := true) F rfl rfl) rfl) rfl (by decide) (fun A F => ?_)
    refine Sx.sw F (Sx.d_call (vs := [.pointer (some ⟨g1, 0, none⟩)]) (v := .int .i64 ((Tb.S.add (Tb.adds Tb.aw 14) 1#64).n)) if_45 F H rfl rfl (tnext0_c (Tb.S.add (Tb.adds Tb.aw 14) 1#64) (Tb.S.ok.add (Tb.adds_ok Tb.aw_ok 14) 1#64) _ _ (Tb.See.own (i := 0) (j := 0) H rfl rfl))) (Sx.wanted_on rfl (Sx.guard_known (d := 127) (b := true) F rfl rfl) rfl) rfl (by decide) (fun A w F H => ?_)
    refine Sx.sv F (Sx.d_bin (v := .bool true) F rfl rfl rfl (Sx.i_eq (by kernel_rfl))) (Sx.wanted_on rfl (Sx.guard_known (d := 127) (b := true) F rfl rfl) rfl) rfl (by decide) (fun A F => ?_)
    refine Sx.sv F (Sx.d_pickT (v := .bool true) F rfl rfl rfl) (Sx.wanted_none rfl _) rfl (by decide) (fun A F => ?_)
    refine Sx.sv F (Sx.d_move F (Or.inl rfl) rfl) (Sx.wanted_none rfl _) rfl (by decide) (fun A F => ?_)
    refine Sx.sv F (Sx.d_move F (Or.inl rfl) rfl) (Sx.wanted_on rfl (Sx.guard_known (d := 132) (b := true) F rfl rfl) rfl) rfl (by decide) (fun A F => ?_)
    refine Sx.sw F (Sx.d_call (vs := [.pointer (some ⟨g2, 0, none⟩)]) (v := .int .i64 ((Tb.S.map (Tb.S.goes (Tb.S.goes (Tb.S.lay (Tb.S.lay (Tb.S.drop (Tb.S.drop (Tb.S.add (Tb.S.add Tb.S.new 7#64) 8#64) 0) 0) 1 5#64) 5 9#64) 5) 8) (fun v => v + 1#64)).n)) if_45 F H rfl rfl (tnext0_c (Tb.S.map (Tb.S.goes (Tb.S.goes (Tb.S.lay (Tb.S.lay (Tb.S.drop (Tb.S.drop (Tb.S.add (Tb.S.add Tb.S.new 7#64) 8#64) 0) 0) 1 5#64) 5 9#64) 5) 8) (fun v => v + 1#64)) (Tb.S.ok.map (Tb.S.ok.goes (Tb.S.ok.goes (Tb.S.ok.lay (Tb.S.ok.lay (Tb.S.ok.drop (Tb.S.ok.drop (Tb.S.ok.add (Tb.S.ok.add Tb.S.ok.new 7#64) 8#64) 0) 0) 1 5#64) 5 9#64) 5) 8) (fun v => v + 1#64)) _ _ (Tb.See.own (i := 1) (j := 1) H rfl rfl))) (Sx.wanted_on rfl (Sx.guard_known (d := 132) (b := true) F rfl rfl) rfl) rfl (by decide) (fun A w F H => ?_)
    refine Sx.sv F (Sx.d_bin (v := .bool true) F rfl rfl rfl (Sx.i_eq (by kernel_rfl))) (Sx.wanted_on rfl (Sx.guard_known (d := 132) (b := true) F rfl rfl) rfl) rfl (by decide) (fun A F => ?_)
    refine Sx.sv F (Sx.d_pickT (v := .bool true) F rfl rfl rfl) (Sx.wanted_none rfl _) rfl (by decide) (fun A F => ?_)
    refine Sx.sv F (Sx.d_move F (Or.inl rfl) rfl) (Sx.wanted_none rfl _) rfl (by decide) (fun A F => ?_)
    refine Sx.sv F (Sx.d_move F (Or.inl rfl) rfl) (Sx.wanted_on rfl (Sx.guard_known (d := 137) (b := true) F rfl rfl) rfl) rfl (by decide) (fun A F => ?_)
    refine Sx.sr (mk := fun v => v) F (Sx.d_callR (vs := [.pointer (some ⟨g2, 0, none⟩)]) (mk := fun v => v) if_47 F H rfl rfl (thandles_c (Tb.S.map (Tb.S.goes (Tb.S.goes (Tb.S.lay (Tb.S.lay (Tb.S.drop (Tb.S.drop (Tb.S.add (Tb.S.add Tb.S.new 7#64) 8#64) 0) 0) 1 5#64) 5 9#64) 5) 8) (fun v => v + 1#64)) (Tb.S.ok.map (Tb.S.ok.goes (Tb.S.ok.goes (Tb.S.ok.lay (Tb.S.ok.lay (Tb.S.ok.drop (Tb.S.ok.drop (Tb.S.ok.add (Tb.S.ok.add Tb.S.ok.new 7#64) 8#64) 0) 0) 1 5#64) 5 9#64) 5) 8) (fun v => v + 1#64)) _ _ (Tb.See.own (i := 1) (j := 1) H rfl rfl))) (Sx.wanted_on rfl (Sx.guard_known (d := 137) (b := true) F rfl rfl) rfl) rfl (by decide) (fun v13 A w F (H : Sx.Own w0 _ [(true, g1, [v12, .int .i64 ((Tb.S.add (Tb.adds Tb.aw 14) 1#64).n)]), (true, g2, [v10, .int .i64 ((Tb.S.map (Tb.S.goes (Tb.S.goes (Tb.S.lay (Tb.S.lay (Tb.S.drop (Tb.S.drop (Tb.S.add (Tb.S.add Tb.S.new 7#64) 8#64) 0) 0) 1 5#64) 5 9#64) 5) 8) (fun v => v + 1#64)).n)])] [⟨true, v13, 3, 1, (Tb.S.map (Tb.S.goes (Tb.S.goes (Tb.S.lay (Tb.S.lay (Tb.S.drop (Tb.S.drop (Tb.S.add (Tb.S.add Tb.S.new 7#64) 8#64) 0) 0) 1 5#64) 5 9#64) 5) 8) (fun v => v + 1#64)).l.length, (Tb.hs (Tb.S.map (Tb.S.goes (Tb.S.goes (Tb.S.lay (Tb.S.lay (Tb.S.drop (Tb.S.drop (Tb.S.add (Tb.S.add Tb.S.new 7#64) 8#64) 0) 0) 1 5#64) 5 9#64) 5) 8) (fun v => v + 1#64)).l)⟩, ⟨true, v12, 107, 2, (Tb.S.add (Tb.adds Tb.aw 14) 1#64).l.length, (Tb.cells (Tb.S.add (Tb.adds Tb.aw 14) 1#64).l)⟩, ⟨true, v10, 107, 2, (Tb.S.map (Tb.S.goes (Tb.S.goes (Tb.S.lay (Tb.S.lay (Tb.S.drop (Tb.S.drop (Tb.S.add (Tb.S.add Tb.S.new 7#64) 8#64) 0) 0) 1 5#64) 5 9#64) 5) 8) (fun v => v + 1#64)).l.length, (Tb.cells (Tb.S.map (Tb.S.goes (Tb.S.goes (Tb.S.lay (Tb.S.lay (Tb.S.drop (Tb.S.drop (Tb.S.add (Tb.S.add Tb.S.new 7#64) 8#64) 0) 0) 1 5#64) 5 9#64) 5) 8) (fun v => v + 1#64)).l)⟩]) => ?_)
    refine Sx.sr (mk := fun v => v) F (Sx.d_litR (qs := #[(0, .int .i64 1), (1, .int .i64 5)]) (cs := #[.int .i64 1, .int .i64 5]) (E := 3) (z := 1) F H rfl rfl (fun _ => by kernel_rfl) rfl (by decide)) (Sx.wanted_on rfl (Sx.guard_known (d := 137) (b := true) F rfl rfl) rfl) rfl (by decide) (fun v14 A w F (H : Sx.Own w0 _ [(true, g1, [v12, .int .i64 ((Tb.S.add (Tb.adds Tb.aw 14) 1#64).n)]), (true, g2, [v10, .int .i64 ((Tb.S.map (Tb.S.goes (Tb.S.goes (Tb.S.lay (Tb.S.lay (Tb.S.drop (Tb.S.drop (Tb.S.add (Tb.S.add Tb.S.new 7#64) 8#64) 0) 0) 1 5#64) 5 9#64) 5) 8) (fun v => v + 1#64)).n)])] [⟨true, v14, 3, 1, 2, [.int .i64 1, .int .i64 5]⟩, ⟨true, v13, 3, 1, (Tb.S.map (Tb.S.goes (Tb.S.goes (Tb.S.lay (Tb.S.lay (Tb.S.drop (Tb.S.drop (Tb.S.add (Tb.S.add Tb.S.new 7#64) 8#64) 0) 0) 1 5#64) 5 9#64) 5) 8) (fun v => v + 1#64)).l.length, (Tb.hs (Tb.S.map (Tb.S.goes (Tb.S.goes (Tb.S.lay (Tb.S.lay (Tb.S.drop (Tb.S.drop (Tb.S.add (Tb.S.add Tb.S.new 7#64) 8#64) 0) 0) 1 5#64) 5 9#64) 5) 8) (fun v => v + 1#64)).l)⟩, ⟨true, v12, 107, 2, (Tb.S.add (Tb.adds Tb.aw 14) 1#64).l.length, (Tb.cells (Tb.S.add (Tb.adds Tb.aw 14) 1#64).l)⟩, ⟨true, v10, 107, 2, (Tb.S.map (Tb.S.goes (Tb.S.goes (Tb.S.lay (Tb.S.lay (Tb.S.drop (Tb.S.drop (Tb.S.add (Tb.S.add Tb.S.new 7#64) 8#64) 0) 0) 1 5#64) 5 9#64) 5) 8) (fun v => v + 1#64)).l.length, (Tb.cells (Tb.S.map (Tb.S.goes (Tb.S.goes (Tb.S.lay (Tb.S.lay (Tb.S.drop (Tb.S.drop (Tb.S.add (Tb.S.add Tb.S.new 7#64) 8#64) 0) 0) 1 5#64) 5 9#64) 5) 8) (fun v => v + 1#64)).l)⟩]) => ?_)
    refine Sx.sw F (Sx.d_call (vs := [v13, v14]) (v := .bool true) if_46 F H rfl rfl (ints_c [1, 5] _ _ _ (Tb.RdI.row (H.row 1 _ rfl rfl) (by kernel_rfl) (by decide)) (Tb.RdI.row (H.row 0 _ rfl rfl) (by kernel_rfl) (by decide)))) (Sx.wanted_on rfl (Sx.guard_known (d := 137) (b := true) F rfl rfl) rfl) rfl (by decide) (fun A w F H => ?_)
    refine Sx.sv F (Sx.d_pickT (v := .bool true) F rfl rfl rfl) (Sx.wanted_none rfl _) rfl (by decide) (fun A F => ?_)
    refine Sx.sv F (Sx.d_move F (Or.inr rfl) rfl) (Sx.wanted_none rfl _) rfl (by decide) (fun A F => ?_)
    refine Sx.nil ?_
    refine hK27 _ _ ?_
    refine wp_ret ?_
    try dsimp only [Exit.then, Exit.inBlock, Exit.jump]
    refine Sx.ret1 F Try.results36 (Sx.res_tmp (v := .bool true) F rfl) ⟨?_, H.below⟩
    rfl
end Go.Proofs.Ytpbdffmgendboab
