/- HalfApart walked. -/
import Derived.Test.YtpbdffmgendboaaSxH
import Derived.Test.YtpbdffmgendboaaHfF
namespace Go.Proofs.Ytpbdffmgendboaa
open Go Go.RowKit
theorem Hf.blk_inj {a b : BitVec 128} (h : Hf.blk a = Hf.blk b) : a = b := by
  simp only [Hf.blk, Blk.mk.injEq] at h
  obtain ⟨h0, h1, h2, h3⟩ := h
  exact Wd.ext (by rw [← Hf.pair_eta (Wd.hi a), h2, h3, Hf.pair_eta]) (by rw [← Hf.pair_eta (Wd.lo a), h0, h1, Hf.pair_eta])
theorem Hf.words_inj {a b : BitVec 128} {k0 k1 : BitVec 32} (h : Hf.word ⟨a, k0, k1, false⟩ = Hf.word ⟨b, k0, k1, false⟩ ∧ Hf.word ⟨a, k0, k1, true⟩ = Hf.word ⟨b, k0, k1, true⟩) : a = b := by
  obtain ⟨h0, h1⟩ := h
  have e0 := Hf.pair_inj (show Hf.pair (Ph.mix 10 (Hf.blk a) ⟨k0, k1⟩).a (Ph.mix 10 (Hf.blk a) ⟨k0, k1⟩).b = Hf.pair (Ph.mix 10 (Hf.blk b) ⟨k0, k1⟩).a (Ph.mix 10 (Hf.blk b) ⟨k0, k1⟩).b from h0)
  have e1 := Hf.pair_inj (show Hf.pair (Ph.mix 10 (Hf.blk a) ⟨k0, k1⟩).c (Ph.mix 10 (Hf.blk a) ⟨k0, k1⟩).d = Hf.pair (Ph.mix 10 (Hf.blk b) ⟨k0, k1⟩).c (Ph.mix 10 (Hf.blk b) ⟨k0, k1⟩).d from h1)
  exact Hf.blk_inj ((Ph.mix_inj 10 _ _ _).1 (Ph.ext e0.1 e0.2 e1.1 e1.2))
set_option maxRecDepth 100000 in
theorem halfApart_ne (hc n m : BitVec 128) (k0 k1 : BitVec 32) (hb : Bool) (hne : ¬ n = m) (w0 : World) : Calls Try.prog 14 #[.agg #[.int .u64 ((Wd.hi hc).toNat), .int .u64 ((Wd.lo hc).toNat), .int .u32 k0.toNat, .int .u32 k1.toNat, .bool hb], .agg #[.int .u64 ((Wd.hi n).toNat), .int .u64 ((Wd.lo n).toNat)], .agg #[.int .u64 ((Wd.hi m).toNat), .int .u64 ((Wd.lo m).toNat)]] w0 fun e w' => e = .returned (.bool true) ∧ Below w0.heap.size w0 w' := by
  refine Sx.enter (args := [.agg #[.int .u64 ((Wd.hi hc).toNat), .int .u64 ((Wd.lo hc).toNat), .int .u32 k0.toNat, .int .u32 k1.toNat, .bool hb], .agg #[.int .u64 ((Wd.hi n).toNat), .int .u64 ((Wd.lo n).toNat)], .agg #[.int .u64 ((Wd.hi m).toNat), .int .u64 ((Wd.lo m).toNat)]]) Try.func14 rfl Try.ntmps14 (Nat.le_of_ble_eq_true rfl) (fun A F => ?_)
  have H := Sx.Own.start w0
  refine Sx.seq (fun K1 hK1 => ?_)
  refine Sx.plain ?_
  refine Sx.sb F (Sx.d_box F H rfl rfl [.int .u64 ((Wd.hi hc).toNat), .int .u64 ((Wd.lo hc).toNat), .int .u32 k0.toNat, .int .u32 k1.toNat, .bool hb] rfl) (Sx.wanted_none rfl _) rfl (by decide) (fun g1 A w F H => ?_)
  refine Sx.sb F (Sx.d_box F H rfl rfl [.int .u64 ((Wd.hi n).toNat), .int .u64 ((Wd.lo n).toNat)] rfl) (Sx.wanted_none rfl _) rfl (by decide) (fun g2 A w F H => ?_)
  refine Sx.sb F (Sx.d_box F H rfl rfl [.int .u64 ((Wd.hi m).toNat), .int .u64 ((Wd.lo m).toNat)] rfl) (Sx.wanted_none rfl _) rfl (by decide) (fun g3 A w F H => ?_)
  refine Sx.sv F (Sx.d_move F (Or.inr rfl) rfl) (Sx.wanted_none rfl _) rfl (by decide) (fun A F => ?_)
  refine Sx.nil ?_
  refine hK1 _ _ ?_
  refine Sx.seq (fun K2 hK2 => ?_)
  refine Sx.seq (fun K3 hK3 => ?_)
  refine Sx.plain ?_
  refine Sx.sw F (Sx.d_call (vs := []) (v := .bool true) if_45 F H rfl rfl (awake12_c _)) (Sx.wanted_none rfl _) rfl (by decide) (fun A w F H => ?_)
  refine Sx.sv F (Sx.d_un (v := .bool false) F rfl rfl rfl) (Sx.wanted_none rfl _) rfl (by decide) (fun A F => ?_)
  refine Sx.nil ?_
  refine hK3 _ _ ?_
  refine Sx.condF F rfl ?_
  refine wp_skip ?_
  refine hK2 _ _ ?_
  refine Sx.seq (fun K4 hK4 => ?_)
  refine Sx.seq (fun K5 hK5 => ?_)
  have F := Sx.Fr.to F (kv' := [(0, .agg #[.int .u64 ((Wd.hi hc).toNat), .int .u64 ((Wd.lo hc).toNat), .int .u32 k0.toNat, .int .u32 k1.toNat, .bool hb]), (1, .agg #[.int .u64 ((Wd.hi n).toNat), .int .u64 ((Wd.lo n).toNat)]), (2, .agg #[.int .u64 ((Wd.hi m).toNat), .int .u64 ((Wd.lo m).toNat)]), (3, .pointer (some ⟨g1, 0, none⟩)), (4, .pointer (some ⟨g2, 0, none⟩)), (5, .pointer (some ⟨g3, 0, none⟩)), (6, .bool false), (11, .bool true), (12, .bool false)]) ⟨rfl, rfl, rfl, rfl, rfl, rfl, rfl, rfl, rfl, trivial⟩
  refine Sx.drawn F (by kernel_rfl) (by kernel_rfl) (by kernel_rfl) [some (.agg #[.int .u64 ((Wd.hi hc).toNat), .int .u64 ((Wd.lo hc).toNat), .int .u32 k0.toNat, .int .u32 k1.toNat, .bool hb]), some (.agg #[.int .u64 ((Wd.hi n).toNat), .int .u64 ((Wd.lo n).toNat)]), some (.agg #[.int .u64 ((Wd.hi ((Hf.jump ⟨hc, k0, k1, hb⟩ n).c)).toNat), .int .u64 ((Wd.lo ((Hf.jump ⟨hc, k0, k1, hb⟩ n).c)).toNat), .int .u32 (((Hf.jump ⟨hc, k0, k1, hb⟩ n).k0).toNat), .int .u32 (((Hf.jump ⟨hc, k0, k1, hb⟩ n).k1).toNat), .bool ((Hf.jump ⟨hc, k0, k1, hb⟩ n).b)]), some (.agg #[.int .u64 ((Wd.hi hc).toNat), .int .u64 ((Wd.lo hc).toNat), .int .u32 k0.toNat, .int .u32 k1.toNat, .bool hb]), some (.agg #[.int .u64 ((Wd.hi m).toNat), .int .u64 ((Wd.lo m).toNat)]), some (.agg #[.int .u64 ((Wd.hi ((Hf.jump ⟨hc, k0, k1, hb⟩ m).c)).toNat), .int .u64 ((Wd.lo ((Hf.jump ⟨hc, k0, k1, hb⟩ m).c)).toNat), .int .u32 (((Hf.jump ⟨hc, k0, k1, hb⟩ m).k0).toNat), .int .u32 (((Hf.jump ⟨hc, k0, k1, hb⟩ m).k1).toNat), .bool ((Hf.jump ⟨hc, k0, k1, hb⟩ m).b)]), some (.bool false), some (.agg #[.int .u64 ((Wd.hi n).toNat), .int .u64 ((Wd.lo n).toNat)]), some (.agg #[.int .u64 ((Wd.hi m).toNat), .int .u64 ((Wd.lo m).toNat)]), some (.bool false), some (.bool false)] (fun L A w => Sx.Own w0 w [(true, g3, [.int .u64 ((Wd.hi m).toNat), .int .u64 ((Wd.lo m).toNat)]), (true, g2, [.int .u64 ((Wd.hi n).toNat), .int .u64 ((Wd.lo n).toNat)]), (true, g1, [.int .u64 ((Wd.hi hc).toNat), .int .u64 ((Wd.lo hc).toNat), .int .u32 k0.toNat, .int .u32 k1.toNat, .bool hb])] []) H.drew ?_ ?_
  · refine ⟨?_, ?_, ?_, ?_, ?_, ?_, ?_, ?_, ?_, ?_, ?_, trivial⟩
    · intro L A w up hun hd F H
      have F := Sx.Fr.to F (kv' := [(3, .pointer (some ⟨g1, 0, none⟩))]) ⟨rfl, trivial⟩
      refine Sx.step_on rfl (Sx.d_load (i := 2) (xs := [.int .u64 ((Wd.hi hc).toNat), .int .u64 ((Wd.lo hc).toNat), .int .u32 k0.toNat, .int .u32 k1.toNat, .bool hb]) rw_82 F H rfl rfl rfl rfl rfl) ?_
      rintro xv w' ⟨hx, rfl⟩
      exact ⟨(fun cv hc => hx.trans (Option.some.inj (Option.some.inj hc))), (by show Sx.Own _ _ [(true, g3, [.int .u64 ((Wd.hi m).toNat), .int .u64 ((Wd.lo m).toNat)]), (true, g2, [.int .u64 ((Wd.hi n).toNat), .int .u64 ((Wd.lo n).toNat)]), (true, g1, [.int .u64 ((Wd.hi hc).toNat), .int .u64 ((Wd.lo hc).toNat), .int .u32 k0.toNat, .int .u32 k1.toNat, .bool hb])] []; exact H)⟩
    · intro L A w up hun hd F H
      have F := Sx.Fr.to F (kv' := [(4, .pointer (some ⟨g2, 0, none⟩))]) ⟨rfl, trivial⟩
      refine Sx.step_on rfl (Sx.d_load (i := 1) (xs := [.int .u64 ((Wd.hi n).toNat), .int .u64 ((Wd.lo n).toNat)]) rw_24 F H rfl rfl rfl rfl rfl) ?_
      rintro xv w' ⟨hx, rfl⟩
      exact ⟨(fun cv hc => hx.trans (Option.some.inj (Option.some.inj hc))), (by show Sx.Own _ _ [(true, g3, [.int .u64 ((Wd.hi m).toNat), .int .u64 ((Wd.lo m).toNat)]), (true, g2, [.int .u64 ((Wd.hi n).toNat), .int .u64 ((Wd.lo n).toNat)]), (true, g1, [.int .u64 ((Wd.hi hc).toNat), .int .u64 ((Wd.lo hc).toNat), .int .u32 k0.toNat, .int .u32 k1.toNat, .bool hb])] []; exact H)⟩
    · intro L A w up hun hd F H
      have F := Sx.Fr.to F (kv' := [(13, .agg #[.int .u64 ((Wd.hi hc).toNat), .int .u64 ((Wd.lo hc).toNat), .int .u32 k0.toNat, .int .u32 k1.toNat, .bool hb]), (14, .agg #[.int .u64 ((Wd.hi n).toNat), .int .u64 ((Wd.lo n).toNat)])]) ⟨rfl, rfl, trivial⟩
      refine Sx.step_on rfl (Sx.d_call (vs := [.agg #[.int .u64 ((Wd.hi hc).toNat), .int .u64 ((Wd.lo hc).toNat), .int .u32 k0.toNat, .int .u32 k1.toNat, .bool hb], .agg #[.int .u64 ((Wd.hi n).toNat), .int .u64 ((Wd.lo n).toNat)]]) (v := .agg #[.int .u64 ((Wd.hi ((Hf.jump ⟨hc, k0, k1, hb⟩ n).c)).toNat), .int .u64 ((Wd.lo ((Hf.jump ⟨hc, k0, k1, hb⟩ n).c)).toNat), .int .u32 (((Hf.jump ⟨hc, k0, k1, hb⟩ n).k0).toNat), .int .u32 (((Hf.jump ⟨hc, k0, k1, hb⟩ n).k1).toNat), .bool ((Hf.jump ⟨hc, k0, k1, hb⟩ n).b)]) if_52 F H rfl rfl (hjump_c hc k0 k1 hb n _)) ?_
      rintro xv w' ⟨hx, H⟩
      exact ⟨(fun cv hc => hx.trans (Option.some.inj (Option.some.inj hc))), (by show Sx.Own _ _ [(true, g3, [.int .u64 ((Wd.hi m).toNat), .int .u64 ((Wd.lo m).toNat)]), (true, g2, [.int .u64 ((Wd.hi n).toNat), .int .u64 ((Wd.lo n).toNat)]), (true, g1, [.int .u64 ((Wd.hi hc).toNat), .int .u64 ((Wd.lo hc).toNat), .int .u32 k0.toNat, .int .u32 k1.toNat, .bool hb])] []; exact H)⟩
    · intro L A w up hun hd F H
      have F := Sx.Fr.to F (kv' := [(3, .pointer (some ⟨g1, 0, none⟩))]) ⟨rfl, trivial⟩
      refine Sx.step_on rfl (Sx.d_load (i := 2) (xs := [.int .u64 ((Wd.hi hc).toNat), .int .u64 ((Wd.lo hc).toNat), .int .u32 k0.toNat, .int .u32 k1.toNat, .bool hb]) rw_82 F H rfl rfl rfl rfl rfl) ?_
      rintro xv w' ⟨hx, rfl⟩
      exact ⟨(fun cv hc => hx.trans (Option.some.inj (Option.some.inj hc))), (by show Sx.Own _ _ [(true, g3, [.int .u64 ((Wd.hi m).toNat), .int .u64 ((Wd.lo m).toNat)]), (true, g2, [.int .u64 ((Wd.hi n).toNat), .int .u64 ((Wd.lo n).toNat)]), (true, g1, [.int .u64 ((Wd.hi hc).toNat), .int .u64 ((Wd.lo hc).toNat), .int .u32 k0.toNat, .int .u32 k1.toNat, .bool hb])] []; exact H)⟩
    · intro L A w up hun hd F H
      have F := Sx.Fr.to F (kv' := [(5, .pointer (some ⟨g3, 0, none⟩))]) ⟨rfl, trivial⟩
      refine Sx.step_on rfl (Sx.d_load (i := 0) (xs := [.int .u64 ((Wd.hi m).toNat), .int .u64 ((Wd.lo m).toNat)]) rw_24 F H rfl rfl rfl rfl rfl) ?_
      rintro xv w' ⟨hx, rfl⟩
      exact ⟨(fun cv hc => hx.trans (Option.some.inj (Option.some.inj hc))), (by show Sx.Own _ _ [(true, g3, [.int .u64 ((Wd.hi m).toNat), .int .u64 ((Wd.lo m).toNat)]), (true, g2, [.int .u64 ((Wd.hi n).toNat), .int .u64 ((Wd.lo n).toNat)]), (true, g1, [.int .u64 ((Wd.hi hc).toNat), .int .u64 ((Wd.lo hc).toNat), .int .u32 k0.toNat, .int .u32 k1.toNat, .bool hb])] []; exact H)⟩
    · intro L A w up hun hd F H
      have F := Sx.Fr.to F (kv' := [(16, .agg #[.int .u64 ((Wd.hi hc).toNat), .int .u64 ((Wd.lo hc).toNat), .int .u32 k0.toNat, .int .u32 k1.toNat, .bool hb]), (17, .agg #[.int .u64 ((Wd.hi m).toNat), .int .u64 ((Wd.lo m).toNat)])]) ⟨rfl, rfl, trivial⟩
      refine Sx.step_on rfl (Sx.d_call (vs := [.agg #[.int .u64 ((Wd.hi hc).toNat), .int .u64 ((Wd.lo hc).toNat), .int .u32 k0.toNat, .int .u32 k1.toNat, .bool hb], .agg #[.int .u64 ((Wd.hi m).toNat), .int .u64 ((Wd.lo m).toNat)]]) (v := .agg #[.int .u64 ((Wd.hi ((Hf.jump ⟨hc, k0, k1, hb⟩ m).c)).toNat), .int .u64 ((Wd.lo ((Hf.jump ⟨hc, k0, k1, hb⟩ m).c)).toNat), .int .u32 (((Hf.jump ⟨hc, k0, k1, hb⟩ m).k0).toNat), .int .u32 (((Hf.jump ⟨hc, k0, k1, hb⟩ m).k1).toNat), .bool ((Hf.jump ⟨hc, k0, k1, hb⟩ m).b)]) if_52 F H rfl rfl (hjump_c hc k0 k1 hb m _)) ?_
      rintro xv w' ⟨hx, H⟩
      exact ⟨(fun cv hc => hx.trans (Option.some.inj (Option.some.inj hc))), (by show Sx.Own _ _ [(true, g3, [.int .u64 ((Wd.hi m).toNat), .int .u64 ((Wd.lo m).toNat)]), (true, g2, [.int .u64 ((Wd.hi n).toNat), .int .u64 ((Wd.lo n).toNat)]), (true, g1, [.int .u64 ((Wd.hi hc).toNat), .int .u64 ((Wd.lo hc).toNat), .int .u32 k0.toNat, .int .u32 k1.toNat, .bool hb])] []; exact H)⟩
    · intro L A w up hun hd F H
      have F := Sx.Fr.to F (kv' := [(15, .agg #[.int .u64 ((Wd.hi ((Hf.jump ⟨hc, k0, k1, hb⟩ n).c)).toNat), .int .u64 ((Wd.lo ((Hf.jump ⟨hc, k0, k1, hb⟩ n).c)).toNat), .int .u32 (((Hf.jump ⟨hc, k0, k1, hb⟩ n).k0).toNat), .int .u32 (((Hf.jump ⟨hc, k0, k1, hb⟩ n).k1).toNat), .bool ((Hf.jump ⟨hc, k0, k1, hb⟩ n).b)]), (18, .agg #[.int .u64 ((Wd.hi ((Hf.jump ⟨hc, k0, k1, hb⟩ m).c)).toNat), .int .u64 ((Wd.lo ((Hf.jump ⟨hc, k0, k1, hb⟩ m).c)).toNat), .int .u32 (((Hf.jump ⟨hc, k0, k1, hb⟩ m).k0).toNat), .int .u32 (((Hf.jump ⟨hc, k0, k1, hb⟩ m).k1).toNat), .bool ((Hf.jump ⟨hc, k0, k1, hb⟩ m).b)])]) ⟨rfl, rfl, trivial⟩
      refine Sx.step_on rfl (Sx.d_bin (v := .bool false) F rfl rfl rfl (Sx.i_eqH (Sx.eqbH_ne (fun k => hne ((Hf.jump_inj _ n m).1 k))))) ?_
      rintro xv w' ⟨hx, rfl⟩
      exact ⟨(fun cv hc => hx.trans (Option.some.inj (Option.some.inj hc))), (by show Sx.Own _ _ [(true, g3, [.int .u64 ((Wd.hi m).toNat), .int .u64 ((Wd.lo m).toNat)]), (true, g2, [.int .u64 ((Wd.hi n).toNat), .int .u64 ((Wd.lo n).toNat)]), (true, g1, [.int .u64 ((Wd.hi hc).toNat), .int .u64 ((Wd.lo hc).toNat), .int .u32 k0.toNat, .int .u32 k1.toNat, .bool hb])] []; exact H)⟩
    · intro L A w up hun hd F H
      have F := Sx.Fr.to F (kv' := [(4, .pointer (some ⟨g2, 0, none⟩))]) ⟨rfl, trivial⟩
      refine Sx.step_on rfl (Sx.d_load (i := 1) (xs := [.int .u64 ((Wd.hi n).toNat), .int .u64 ((Wd.lo n).toNat)]) rw_24 F H rfl rfl rfl rfl rfl) ?_
      rintro xv w' ⟨hx, rfl⟩
      exact ⟨(fun cv hc => hx.trans (Option.some.inj (Option.some.inj hc))), (by show Sx.Own _ _ [(true, g3, [.int .u64 ((Wd.hi m).toNat), .int .u64 ((Wd.lo m).toNat)]), (true, g2, [.int .u64 ((Wd.hi n).toNat), .int .u64 ((Wd.lo n).toNat)]), (true, g1, [.int .u64 ((Wd.hi hc).toNat), .int .u64 ((Wd.lo hc).toNat), .int .u32 k0.toNat, .int .u32 k1.toNat, .bool hb])] []; exact H)⟩
    · intro L A w up hun hd F H
      have F := Sx.Fr.to F (kv' := [(5, .pointer (some ⟨g3, 0, none⟩))]) ⟨rfl, trivial⟩
      refine Sx.step_on rfl (Sx.d_load (i := 0) (xs := [.int .u64 ((Wd.hi m).toNat), .int .u64 ((Wd.lo m).toNat)]) rw_24 F H rfl rfl rfl rfl rfl) ?_
      rintro xv w' ⟨hx, rfl⟩
      exact ⟨(fun cv hc => hx.trans (Option.some.inj (Option.some.inj hc))), (by show Sx.Own _ _ [(true, g3, [.int .u64 ((Wd.hi m).toNat), .int .u64 ((Wd.lo m).toNat)]), (true, g2, [.int .u64 ((Wd.hi n).toNat), .int .u64 ((Wd.lo n).toNat)]), (true, g1, [.int .u64 ((Wd.hi hc).toNat), .int .u64 ((Wd.lo hc).toNat), .int .u32 k0.toNat, .int .u32 k1.toNat, .bool hb])] []; exact H)⟩
    · intro L A w up hun hd F H
      have F := Sx.Fr.to F (kv' := [(20, .agg #[.int .u64 ((Wd.hi n).toNat), .int .u64 ((Wd.lo n).toNat)]), (21, .agg #[.int .u64 ((Wd.hi m).toNat), .int .u64 ((Wd.lo m).toNat)])]) ⟨rfl, rfl, trivial⟩
      refine Sx.step_on rfl (Sx.d_bin (v := .bool false) F rfl rfl rfl (Sx.i_eqV (eqb_ne hne))) ?_
      rintro xv w' ⟨hx, rfl⟩
      exact ⟨(fun cv hc => hx.trans (Option.some.inj (Option.some.inj hc))), (by show Sx.Own _ _ [(true, g3, [.int .u64 ((Wd.hi m).toNat), .int .u64 ((Wd.lo m).toNat)]), (true, g2, [.int .u64 ((Wd.hi n).toNat), .int .u64 ((Wd.lo n).toNat)]), (true, g1, [.int .u64 ((Wd.hi hc).toNat), .int .u64 ((Wd.lo hc).toNat), .int .u32 k0.toNat, .int .u32 k1.toNat, .bool hb])] []; exact H)⟩
    · intro L A w up hun hd F H
      have F := Sx.Fr.to F (kv' := [(19, .bool false), (22, .bool false)]) ⟨rfl, rfl, trivial⟩
      refine Sx.step_on rfl (Sx.d_bin (v := .bool false) F rfl rfl rfl (Sx.b_ne (by simp))) ?_
      rintro xv w' ⟨hx, rfl⟩
      exact ⟨(fun cv hc => hx.trans (Option.some.inj (Option.some.inj hc))), (by show Sx.Own _ _ [(true, g3, [.int .u64 ((Wd.hi m).toNat), .int .u64 ((Wd.lo m).toNat)]), (true, g2, [.int .u64 ((Wd.hi n).toNat), .int .u64 ((Wd.lo n).toNat)]), (true, g1, [.int .u64 ((Wd.hi hc).toNat), .int .u64 ((Wd.lo hc).toNat), .int .u32 k0.toNat, .int .u32 k1.toNat, .bool hb])] []; exact H)⟩
  · intro L A w hL F H
    have F := Sx.Fr.to F (kv' := [(0, .agg #[.int .u64 ((Wd.hi hc).toNat), .int .u64 ((Wd.lo hc).toNat), .int .u32 k0.toNat, .int .u32 k1.toNat, .bool hb]), (1, .agg #[.int .u64 ((Wd.hi n).toNat), .int .u64 ((Wd.lo n).toNat)]), (2, .agg #[.int .u64 ((Wd.hi m).toNat), .int .u64 ((Wd.lo m).toNat)]), (3, .pointer (some ⟨g1, 0, none⟩)), (4, .pointer (some ⟨g2, 0, none⟩)), (5, .pointer (some ⟨g3, 0, none⟩)), (6, .bool false), (11, .bool true), (12, .bool false), (23, .bool false)]) ⟨rfl, rfl, rfl, rfl, rfl, rfl, rfl, rfl, rfl, rfl, trivial⟩
    refine hK5 _ _ ?_
    refine Sx.condF F rfl ?_
    refine wp_skip ?_
    refine hK4 _ _ ?_
    refine Sx.seq (fun K6 hK6 => ?_)
    have F := Sx.Fr.to F (kv' := [(0, .agg #[.int .u64 ((Wd.hi hc).toNat), .int .u64 ((Wd.lo hc).toNat), .int .u32 k0.toNat, .int .u32 k1.toNat, .bool hb]), (1, .agg #[.int .u64 ((Wd.hi n).toNat), .int .u64 ((Wd.lo n).toNat)]), (2, .agg #[.int .u64 ((Wd.hi m).toNat), .int .u64 ((Wd.lo m).toNat)]), (3, .pointer (some ⟨g1, 0, none⟩)), (4, .pointer (some ⟨g2, 0, none⟩)), (5, .pointer (some ⟨g3, 0, none⟩)), (6, .bool false), (11, .bool true), (12, .bool false), (23, .bool false)]) ⟨rfl, rfl, rfl, rfl, rfl, rfl, rfl, rfl, rfl, rfl, trivial⟩
    refine Sx.drawn F (by kernel_rfl) (by kernel_rfl) (by kernel_rfl) [some (.agg #[.int .u64 ((Wd.hi n).toNat), .int .u64 ((Wd.lo n).toNat)]), some (.pointer (some ⟨g1, 2, none⟩)), some (.agg #[.int .u32 k0.toNat, .int .u32 k1.toNat]), some (.agg #[.int .u64 ((Wd.hi n).toNat), .int .u64 ((Wd.lo n).toNat), .int .u32 k0.toNat, .int .u32 k1.toNat, .bool false]), some (.agg #[.int .u64 ((Wd.hi m).toNat), .int .u64 ((Wd.lo m).toNat)]), some (.pointer (some ⟨g1, 2, none⟩)), some (.agg #[.int .u32 k0.toNat, .int .u32 k1.toNat]), some (.agg #[.int .u64 ((Wd.hi m).toNat), .int .u64 ((Wd.lo m).toNat), .int .u32 k0.toNat, .int .u32 k1.toNat, .bool false]), none, none, none, none] (fun L A w => ∃ g4 : Nat, ∃ g5 : Nat, (L 8 = true → A.eval (.tmp 7) = .pointer (some ⟨g4, 0, none⟩)) ∧ (L 9 = true → A.eval (.tmp 8) = .pointer (some ⟨g5, 0, none⟩)) ∧ Sx.Own w0 w [(true, g3, [.int .u64 ((Wd.hi m).toNat), .int .u64 ((Wd.lo m).toNat)]), (true, g2, [.int .u64 ((Wd.hi n).toNat), .int .u64 ((Wd.lo n).toNat)]), (true, g1, [.int .u64 ((Wd.hi hc).toNat), .int .u64 ((Wd.lo hc).toNat), .int .u32 k0.toNat, .int .u32 k1.toNat, .bool hb]), (L 8, g4, (cond (L 10) [.int .u64 ((Wd.hi n).toNat), .int .u64 ((Wd.lo n).toNat), .int .u32 k0.toNat, .int .u32 k1.toNat, .bool false] [.int .u64 ((Wd.hi 0#128).toNat), .int .u64 ((Wd.lo 0#128).toNat), .int .u32 0, .int .u32 0, .bool false])), (L 9, g5, (cond (L 11) [.int .u64 ((Wd.hi m).toNat), .int .u64 ((Wd.lo m).toNat), .int .u32 k0.toNat, .int .u32 k1.toNat, .bool false] [.int .u64 ((Wd.hi 0#128).toNat), .int .u64 ((Wd.lo 0#128).toNat), .int .u32 0, .int .u32 0, .bool false]))] []) ⟨0, 0, (fun h => by cases h), (fun h => by cases h), H.drew.pad [(false, 0, [.int .u64 ((Wd.hi 0#128).toNat), .int .u64 ((Wd.lo 0#128).toNat), .int .u32 0, .int .u32 0, .bool false]), (false, 0, [.int .u64 ((Wd.hi 0#128).toNat), .int .u64 ((Wd.lo 0#128).toNat), .int .u32 0, .int .u32 0, .bool false])] rfl [] rfl⟩ ?_ ?_
    · refine ⟨?_, ?_, ?_, ?_, ?_, ?_, ?_, ?_, ?_, ?_, ?_, ?_, trivial⟩
      · intro L A w up hun hd F ⟨g4, g5, p8, p9, H⟩
        have f10 : L 10 = false := up 10 0 rfl hun
        have f11 : L 11 = false := up 11 0 rfl hun
        rw [f10, f11] at H
        have F := Sx.Fr.to F (kv' := [(4, .pointer (some ⟨g2, 0, none⟩))]) ⟨rfl, trivial⟩
        refine Sx.step_on rfl (Sx.d_load (i := 1) (xs := [.int .u64 ((Wd.hi n).toNat), .int .u64 ((Wd.lo n).toNat)]) rw_24 F H rfl rfl rfl rfl rfl) ?_
        rintro xv w' ⟨hx, rfl⟩
        exact ⟨(fun cv hc => hx.trans (Option.some.inj (Option.some.inj hc))), ⟨g4, g5, (fun h => (Sx.put_ne rfl _).trans (p8 h)), (fun h => (Sx.put_ne rfl _).trans (p9 h)), (by show Sx.Own _ _ [(true, g3, [.int .u64 ((Wd.hi m).toNat), .int .u64 ((Wd.lo m).toNat)]), (true, g2, [.int .u64 ((Wd.hi n).toNat), .int .u64 ((Wd.lo n).toNat)]), (true, g1, [.int .u64 ((Wd.hi hc).toNat), .int .u64 ((Wd.lo hc).toNat), .int .u32 k0.toNat, .int .u32 k1.toNat, .bool hb]), (L 8, g4, (cond (L 10) [.int .u64 ((Wd.hi n).toNat), .int .u64 ((Wd.lo n).toNat), .int .u32 k0.toNat, .int .u32 k1.toNat, .bool false] [.int .u64 ((Wd.hi 0#128).toNat), .int .u64 ((Wd.lo 0#128).toNat), .int .u32 0, .int .u32 0, .bool false])), (L 9, g5, (cond (L 11) [.int .u64 ((Wd.hi m).toNat), .int .u64 ((Wd.lo m).toNat), .int .u32 k0.toNat, .int .u32 k1.toNat, .bool false] [.int .u64 ((Wd.hi 0#128).toNat), .int .u64 ((Wd.lo 0#128).toNat), .int .u32 0, .int .u32 0, .bool false]))] []; rw [f10, f11]; exact H)⟩⟩
      · intro L A w up hun hd F ⟨g4, g5, p8, p9, H⟩
        have f10 : L 10 = false := up 10 1 rfl hun
        have f11 : L 11 = false := up 11 1 rfl hun
        rw [f10, f11] at H
        have F := Sx.Fr.to F (kv' := [(3, .pointer (some ⟨g1, 0, none⟩))]) ⟨rfl, trivial⟩
        refine Sx.step_on rfl (Sx.d_faddr (v := .pointer (some ⟨g1, 2, none⟩)) F rfl rfl (fa_82_1 _ 0 _)) ?_
        rintro xv w' ⟨hx, rfl⟩
        exact ⟨(fun cv hc => hx.trans (Option.some.inj (Option.some.inj hc))), ⟨g4, g5, (fun h => (Sx.put_ne rfl _).trans (p8 h)), (fun h => (Sx.put_ne rfl _).trans (p9 h)), (by show Sx.Own _ _ [(true, g3, [.int .u64 ((Wd.hi m).toNat), .int .u64 ((Wd.lo m).toNat)]), (true, g2, [.int .u64 ((Wd.hi n).toNat), .int .u64 ((Wd.lo n).toNat)]), (true, g1, [.int .u64 ((Wd.hi hc).toNat), .int .u64 ((Wd.lo hc).toNat), .int .u32 k0.toNat, .int .u32 k1.toNat, .bool hb]), (L 8, g4, (cond (L 10) [.int .u64 ((Wd.hi n).toNat), .int .u64 ((Wd.lo n).toNat), .int .u32 k0.toNat, .int .u32 k1.toNat, .bool false] [.int .u64 ((Wd.hi 0#128).toNat), .int .u64 ((Wd.lo 0#128).toNat), .int .u32 0, .int .u32 0, .bool false])), (L 9, g5, (cond (L 11) [.int .u64 ((Wd.hi m).toNat), .int .u64 ((Wd.lo m).toNat), .int .u32 k0.toNat, .int .u32 k1.toNat, .bool false] [.int .u64 ((Wd.hi 0#128).toNat), .int .u64 ((Wd.lo 0#128).toNat), .int .u32 0, .int .u32 0, .bool false]))] []; rw [f10, f11]; exact H)⟩⟩
      · intro L A w up hun hd F ⟨g4, g5, p8, p9, H⟩
        have f10 : L 10 = false := up 10 2 rfl hun
        have f11 : L 11 = false := up 11 2 rfl hun
        rw [f10, f11] at H
        have F := Sx.Fr.to F (kv' := [(25, .pointer (some ⟨g1, 2, none⟩))]) ⟨rfl, trivial⟩
        refine Sx.step_on rfl (Sx.d_load (i := 2) (xs := [.int .u32 k0.toNat, .int .u32 k1.toNat]) rw_80 F H rfl rfl rfl rfl rfl) ?_
        rintro xv w' ⟨hx, rfl⟩
        exact ⟨(fun cv hc => hx.trans (Option.some.inj (Option.some.inj hc))), ⟨g4, g5, (fun h => (Sx.put_ne rfl _).trans (p8 h)), (fun h => (Sx.put_ne rfl _).trans (p9 h)), (by show Sx.Own _ _ [(true, g3, [.int .u64 ((Wd.hi m).toNat), .int .u64 ((Wd.lo m).toNat)]), (true, g2, [.int .u64 ((Wd.hi n).toNat), .int .u64 ((Wd.lo n).toNat)]), (true, g1, [.int .u64 ((Wd.hi hc).toNat), .int .u64 ((Wd.lo hc).toNat), .int .u32 k0.toNat, .int .u32 k1.toNat, .bool hb]), (L 8, g4, (cond (L 10) [.int .u64 ((Wd.hi n).toNat), .int .u64 ((Wd.lo n).toNat), .int .u32 k0.toNat, .int .u32 k1.toNat, .bool false] [.int .u64 ((Wd.hi 0#128).toNat), .int .u64 ((Wd.lo 0#128).toNat), .int .u32 0, .int .u32 0, .bool false])), (L 9, g5, (cond (L 11) [.int .u64 ((Wd.hi m).toNat), .int .u64 ((Wd.lo m).toNat), .int .u32 k0.toNat, .int .u32 k1.toNat, .bool false] [.int .u64 ((Wd.hi 0#128).toNat), .int .u64 ((Wd.lo 0#128).toNat), .int .u32 0, .int .u32 0, .bool false]))] []; rw [f10, f11]; exact H)⟩⟩
      · intro L A w up hun hd F ⟨g4, g5, p8, p9, H⟩
        have f10 : L 10 = false := up 10 3 rfl hun
        have f11 : L 11 = false := up 11 3 rfl hun
        rw [f10, f11] at H
        have F := Sx.Fr.to F (kv' := [(24, .agg #[.int .u64 ((Wd.hi n).toNat), .int .u64 ((Wd.lo n).toNat)]), (26, .agg #[.int .u32 k0.toNat, .int .u32 k1.toNat])]) ⟨rfl, rfl, trivial⟩
        refine Sx.step_on rfl (Sx.d_build (qs := #[(0, .agg #[.int .u64 ((Wd.hi n).toNat), .int .u64 ((Wd.lo n).toNat)]), (1, .agg #[.int .u32 k0.toNat, .int .u32 k1.toNat])]) (v := .agg #[.int .u64 ((Wd.hi n).toNat), .int .u64 ((Wd.lo n).toNat), .int .u32 k0.toNat, .int .u32 k1.toNat, .bool false]) F rfl rfl (by kernel_rfl)) ?_
        rintro xv w' ⟨hx, rfl⟩
        exact ⟨(fun cv hc => hx.trans (Option.some.inj (Option.some.inj hc))), ⟨g4, g5, (fun h => (Sx.put_ne rfl _).trans (p8 h)), (fun h => (Sx.put_ne rfl _).trans (p9 h)), (by show Sx.Own _ _ [(true, g3, [.int .u64 ((Wd.hi m).toNat), .int .u64 ((Wd.lo m).toNat)]), (true, g2, [.int .u64 ((Wd.hi n).toNat), .int .u64 ((Wd.lo n).toNat)]), (true, g1, [.int .u64 ((Wd.hi hc).toNat), .int .u64 ((Wd.lo hc).toNat), .int .u32 k0.toNat, .int .u32 k1.toNat, .bool hb]), (L 8, g4, (cond (L 10) [.int .u64 ((Wd.hi n).toNat), .int .u64 ((Wd.lo n).toNat), .int .u32 k0.toNat, .int .u32 k1.toNat, .bool false] [.int .u64 ((Wd.hi 0#128).toNat), .int .u64 ((Wd.lo 0#128).toNat), .int .u32 0, .int .u32 0, .bool false])), (L 9, g5, (cond (L 11) [.int .u64 ((Wd.hi m).toNat), .int .u64 ((Wd.lo m).toNat), .int .u32 k0.toNat, .int .u32 k1.toNat, .bool false] [.int .u64 ((Wd.hi 0#128).toNat), .int .u64 ((Wd.lo 0#128).toNat), .int .u32 0, .int .u32 0, .bool false]))] []; rw [f10, f11]; exact H)⟩⟩
      · intro L A w up hun hd F ⟨g4, g5, p8, p9, H⟩
        have f11 : L 11 = false := up 11 4 rfl hun
        rw [f11] at H
        have F := Sx.Fr.to F (kv' := [(5, .pointer (some ⟨g3, 0, none⟩))]) ⟨rfl, trivial⟩
        refine Sx.step_on rfl (Sx.d_load (i := 0) (xs := [.int .u64 ((Wd.hi m).toNat), .int .u64 ((Wd.lo m).toNat)]) rw_24 F H rfl rfl rfl rfl rfl) ?_
        rintro xv w' ⟨hx, rfl⟩
        exact ⟨(fun cv hc => hx.trans (Option.some.inj (Option.some.inj hc))), ⟨g4, g5, (fun h => (Sx.put_ne rfl _).trans (p8 h)), (fun h => (Sx.put_ne rfl _).trans (p9 h)), (by show Sx.Own _ _ [(true, g3, [.int .u64 ((Wd.hi m).toNat), .int .u64 ((Wd.lo m).toNat)]), (true, g2, [.int .u64 ((Wd.hi n).toNat), .int .u64 ((Wd.lo n).toNat)]), (true, g1, [.int .u64 ((Wd.hi hc).toNat), .int .u64 ((Wd.lo hc).toNat), .int .u32 k0.toNat, .int .u32 k1.toNat, .bool hb]), (L 8, g4, (cond (L 10) [.int .u64 ((Wd.hi n).toNat), .int .u64 ((Wd.lo n).toNat), .int .u32 k0.toNat, .int .u32 k1.toNat, .bool false] [.int .u64 ((Wd.hi 0#128).toNat), .int .u64 ((Wd.lo 0#128).toNat), .int .u32 0, .int .u32 0, .bool false])), (L 9, g5, (cond (L 11) [.int .u64 ((Wd.hi m).toNat), .int .u64 ((Wd.lo m).toNat), .int .u32 k0.toNat, .int .u32 k1.toNat, .bool false] [.int .u64 ((Wd.hi 0#128).toNat), .int .u64 ((Wd.lo 0#128).toNat), .int .u32 0, .int .u32 0, .bool false]))] []; rw [f11]; exact H)⟩⟩
      · intro L A w up hun hd F ⟨g4, g5, p8, p9, H⟩
        have f11 : L 11 = false := up 11 5 rfl hun
        rw [f11] at H
        have F := Sx.Fr.to F (kv' := [(3, .pointer (some ⟨g1, 0, none⟩))]) ⟨rfl, trivial⟩
        refine Sx.step_on rfl (Sx.d_faddr (v := .pointer (some ⟨g1, 2, none⟩)) F rfl rfl (fa_82_1 _ 0 _)) ?_
        rintro xv w' ⟨hx, rfl⟩
        exact ⟨(fun cv hc => hx.trans (Option.some.inj (Option.some.inj hc))), ⟨g4, g5, (fun h => (Sx.put_ne rfl _).trans (p8 h)), (fun h => (Sx.put_ne rfl _).trans (p9 h)), (by show Sx.Own _ _ [(true, g3, [.int .u64 ((Wd.hi m).toNat), .int .u64 ((Wd.lo m).toNat)]), (true, g2, [.int .u64 ((Wd.hi n).toNat), .int .u64 ((Wd.lo n).toNat)]), (true, g1, [.int .u64 ((Wd.hi hc).toNat), .int .u64 ((Wd.lo hc).toNat), .int .u32 k0.toNat, .int .u32 k1.toNat, .bool hb]), (L 8, g4, (cond (L 10) [.int .u64 ((Wd.hi n).toNat), .int .u64 ((Wd.lo n).toNat), .int .u32 k0.toNat, .int .u32 k1.toNat, .bool false] [.int .u64 ((Wd.hi 0#128).toNat), .int .u64 ((Wd.lo 0#128).toNat), .int .u32 0, .int .u32 0, .bool false])), (L 9, g5, (cond (L 11) [.int .u64 ((Wd.hi m).toNat), .int .u64 ((Wd.lo m).toNat), .int .u32 k0.toNat, .int .u32 k1.toNat, .bool false] [.int .u64 ((Wd.hi 0#128).toNat), .int .u64 ((Wd.lo 0#128).toNat), .int .u32 0, .int .u32 0, .bool false]))] []; rw [f11]; exact H)⟩⟩
      · intro L A w up hun hd F ⟨g4, g5, p8, p9, H⟩
        have f11 : L 11 = false := up 11 6 rfl hun
        rw [f11] at H
        have F := Sx.Fr.to F (kv' := [(29, .pointer (some ⟨g1, 2, none⟩))]) ⟨rfl, trivial⟩
        refine Sx.step_on rfl (Sx.d_load (i := 2) (xs := [.int .u32 k0.toNat, .int .u32 k1.toNat]) rw_80 F H rfl rfl rfl rfl rfl) ?_
        rintro xv w' ⟨hx, rfl⟩
        exact ⟨(fun cv hc => hx.trans (Option.some.inj (Option.some.inj hc))), ⟨g4, g5, (fun h => (Sx.put_ne rfl _).trans (p8 h)), (fun h => (Sx.put_ne rfl _).trans (p9 h)), (by show Sx.Own _ _ [(true, g3, [.int .u64 ((Wd.hi m).toNat), .int .u64 ((Wd.lo m).toNat)]), (true, g2, [.int .u64 ((Wd.hi n).toNat), .int .u64 ((Wd.lo n).toNat)]), (true, g1, [.int .u64 ((Wd.hi hc).toNat), .int .u64 ((Wd.lo hc).toNat), .int .u32 k0.toNat, .int .u32 k1.toNat, .bool hb]), (L 8, g4, (cond (L 10) [.int .u64 ((Wd.hi n).toNat), .int .u64 ((Wd.lo n).toNat), .int .u32 k0.toNat, .int .u32 k1.toNat, .bool false] [.int .u64 ((Wd.hi 0#128).toNat), .int .u64 ((Wd.lo 0#128).toNat), .int .u32 0, .int .u32 0, .bool false])), (L 9, g5, (cond (L 11) [.int .u64 ((Wd.hi m).toNat), .int .u64 ((Wd.lo m).toNat), .int .u32 k0.toNat, .int .u32 k1.toNat, .bool false] [.int .u64 ((Wd.hi 0#128).toNat), .int .u64 ((Wd.lo 0#128).toNat), .int .u32 0, .int .u32 0, .bool false]))] []; rw [f11]; exact H)⟩⟩
      · intro L A w up hun hd F ⟨g4, g5, p8, p9, H⟩
        have f11 : L 11 = false := up 11 7 rfl hun
        rw [f11] at H
        have F := Sx.Fr.to F (kv' := [(28, .agg #[.int .u64 ((Wd.hi m).toNat), .int .u64 ((Wd.lo m).toNat)]), (30, .agg #[.int .u32 k0.toNat, .int .u32 k1.toNat])]) ⟨rfl, rfl, trivial⟩
        refine Sx.step_on rfl (Sx.d_build (qs := #[(0, .agg #[.int .u64 ((Wd.hi m).toNat), .int .u64 ((Wd.lo m).toNat)]), (1, .agg #[.int .u32 k0.toNat, .int .u32 k1.toNat])]) (v := .agg #[.int .u64 ((Wd.hi m).toNat), .int .u64 ((Wd.lo m).toNat), .int .u32 k0.toNat, .int .u32 k1.toNat, .bool false]) F rfl rfl (by kernel_rfl)) ?_
        rintro xv w' ⟨hx, rfl⟩
        exact ⟨(fun cv hc => hx.trans (Option.some.inj (Option.some.inj hc))), ⟨g4, g5, (fun h => (Sx.put_ne rfl _).trans (p8 h)), (fun h => (Sx.put_ne rfl _).trans (p9 h)), (by show Sx.Own _ _ [(true, g3, [.int .u64 ((Wd.hi m).toNat), .int .u64 ((Wd.lo m).toNat)]), (true, g2, [.int .u64 ((Wd.hi n).toNat), .int .u64 ((Wd.lo n).toNat)]), (true, g1, [.int .u64 ((Wd.hi hc).toNat), .int .u64 ((Wd.lo hc).toNat), .int .u32 k0.toNat, .int .u32 k1.toNat, .bool hb]), (L 8, g4, (cond (L 10) [.int .u64 ((Wd.hi n).toNat), .int .u64 ((Wd.lo n).toNat), .int .u32 k0.toNat, .int .u32 k1.toNat, .bool false] [.int .u64 ((Wd.hi 0#128).toNat), .int .u64 ((Wd.lo 0#128).toNat), .int .u32 0, .int .u32 0, .bool false])), (L 9, g5, (cond (L 11) [.int .u64 ((Wd.hi m).toNat), .int .u64 ((Wd.lo m).toNat), .int .u32 k0.toNat, .int .u32 k1.toNat, .bool false] [.int .u64 ((Wd.hi 0#128).toNat), .int .u64 ((Wd.lo 0#128).toNat), .int .u32 0, .int .u32 0, .bool false]))] []; rw [f11]; exact H)⟩⟩
      · intro L A w up hun hd F ⟨g4, g5, p8, p9, H⟩
        have f8 : L 8 = false := hun
        have f10 : L 10 = false := up 10 8 rfl hun
        have f11 : L 11 = false := up 11 8 rfl hun
        rw [f8, f10, f11] at H
        have F := Sx.Fr.to F (kv' := []) trivial
        refine Sx.step_on rfl (Sx.d_alloc_at H rfl 3 [.int .u64 ((Wd.hi 0#128).toNat), .int .u64 ((Wd.lo 0#128).toNat), .int .u32 0, .int .u32 0, .bool false] zero_82) ?_
        rintro xv w' ⟨g', hx, H⟩
        exact ⟨(fun cv hc => by have h := Option.some.inj hc; cases h), ⟨g', g5, (fun _ => (Sx.put_same F (by decide) _).trans hx), (fun h => (Sx.put_ne rfl _).trans (p9 h)), (by show Sx.Own _ _ [(true, g3, [.int .u64 ((Wd.hi m).toNat), .int .u64 ((Wd.lo m).toNat)]), (true, g2, [.int .u64 ((Wd.hi n).toNat), .int .u64 ((Wd.lo n).toNat)]), (true, g1, [.int .u64 ((Wd.hi hc).toNat), .int .u64 ((Wd.lo hc).toNat), .int .u32 k0.toNat, .int .u32 k1.toNat, .bool hb]), (true, g', (cond (L 10) [.int .u64 ((Wd.hi n).toNat), .int .u64 ((Wd.lo n).toNat), .int .u32 k0.toNat, .int .u32 k1.toNat, .bool false] [.int .u64 ((Wd.hi 0#128).toNat), .int .u64 ((Wd.lo 0#128).toNat), .int .u32 0, .int .u32 0, .bool false])), (L 9, g5, (cond (L 11) [.int .u64 ((Wd.hi m).toNat), .int .u64 ((Wd.lo m).toNat), .int .u32 k0.toNat, .int .u32 k1.toNat, .bool false] [.int .u64 ((Wd.hi 0#128).toNat), .int .u64 ((Wd.lo 0#128).toNat), .int .u32 0, .int .u32 0, .bool false]))] []; rw [f10, f11]; exact H)⟩⟩
      · intro L A w up hun hd F ⟨g4, g5, p8, p9, H⟩
        have f9 : L 9 = false := hun
        have f10 : L 10 = false := up 10 9 rfl hun
        have f11 : L 11 = false := up 11 9 rfl hun
        rw [f9, f10, f11] at H
        have F := Sx.Fr.to F (kv' := []) trivial
        refine Sx.step_on rfl (Sx.d_alloc_at H rfl 4 [.int .u64 ((Wd.hi 0#128).toNat), .int .u64 ((Wd.lo 0#128).toNat), .int .u32 0, .int .u32 0, .bool false] zero_82) ?_
        rintro xv w' ⟨g', hx, H⟩
        exact ⟨(fun cv hc => by have h := Option.some.inj hc; cases h), ⟨g4, g', (fun h => (Sx.put_ne rfl _).trans (p8 h)), (fun _ => (Sx.put_same F (by decide) _).trans hx), (by show Sx.Own _ _ [(true, g3, [.int .u64 ((Wd.hi m).toNat), .int .u64 ((Wd.lo m).toNat)]), (true, g2, [.int .u64 ((Wd.hi n).toNat), .int .u64 ((Wd.lo n).toNat)]), (true, g1, [.int .u64 ((Wd.hi hc).toNat), .int .u64 ((Wd.lo hc).toNat), .int .u32 k0.toNat, .int .u32 k1.toNat, .bool hb]), (L 8, g4, (cond (L 10) [.int .u64 ((Wd.hi n).toNat), .int .u64 ((Wd.lo n).toNat), .int .u32 k0.toNat, .int .u32 k1.toNat, .bool false] [.int .u64 ((Wd.hi 0#128).toNat), .int .u64 ((Wd.lo 0#128).toNat), .int .u32 0, .int .u32 0, .bool false])), (true, g', (cond (L 11) [.int .u64 ((Wd.hi m).toNat), .int .u64 ((Wd.lo m).toNat), .int .u32 k0.toNat, .int .u32 k1.toNat, .bool false] [.int .u64 ((Wd.hi 0#128).toNat), .int .u64 ((Wd.lo 0#128).toNat), .int .u32 0, .int .u32 0, .bool false]))] []; rw [f10, f11]; exact H)⟩⟩
      · intro L A w up hun hd F ⟨g4, g5, p8, p9, H⟩
        have t8 : L 8 = true := hd 8 rfl
        have t9 : L 9 = true := hd 9 rfl
        have f10 : L 10 = false := hun
        have f11 : L 11 = false := up 11 10 rfl hun
        rw [t8, t9, f10, f11] at H
        have F := Sx.Fr.to F (kv' := [(27, .agg #[.int .u64 ((Wd.hi n).toNat), .int .u64 ((Wd.lo n).toNat), .int .u32 k0.toNat, .int .u32 k1.toNat, .bool false])]) ⟨rfl, trivial⟩
        have F := Sx.Fr.add F (p8 t8)
        have F := Sx.Fr.add F (p9 t9)
        refine Sx.step_on rfl (Sx.d_store (i := 3) (xs := [.int .u64 ((Wd.hi n).toNat), .int .u64 ((Wd.lo n).toNat), .int .u32 k0.toNat, .int .u32 k1.toNat, .bool false]) (us := [.int .u64 ((Wd.hi n).toNat), .int .u64 ((Wd.lo n).toNat), .int .u32 k0.toNat, .int .u32 k1.toNat, .bool false]) sz_82 F H rfl rfl rfl rfl rfl rfl rfl (Nat.le_of_ble_eq_true rfl) rfl) ?_
        intro xv w' H
        exact ⟨(fun cv hc => by have h := Option.some.inj hc; cases h), ⟨g4, g5, p8, p9, (by show Sx.Own _ _ [(true, g3, [.int .u64 ((Wd.hi m).toNat), .int .u64 ((Wd.lo m).toNat)]), (true, g2, [.int .u64 ((Wd.hi n).toNat), .int .u64 ((Wd.lo n).toNat)]), (true, g1, [.int .u64 ((Wd.hi hc).toNat), .int .u64 ((Wd.lo hc).toNat), .int .u32 k0.toNat, .int .u32 k1.toNat, .bool hb]), (L 8, g4, (cond (true) [.int .u64 ((Wd.hi n).toNat), .int .u64 ((Wd.lo n).toNat), .int .u32 k0.toNat, .int .u32 k1.toNat, .bool false] [.int .u64 ((Wd.hi 0#128).toNat), .int .u64 ((Wd.lo 0#128).toNat), .int .u32 0, .int .u32 0, .bool false])), (L 9, g5, (cond (L 11) [.int .u64 ((Wd.hi m).toNat), .int .u64 ((Wd.lo m).toNat), .int .u32 k0.toNat, .int .u32 k1.toNat, .bool false] [.int .u64 ((Wd.hi 0#128).toNat), .int .u64 ((Wd.lo 0#128).toNat), .int .u32 0, .int .u32 0, .bool false]))] []; rw [t8, t9, f11]; exact H)⟩⟩
      · intro L A w up hun hd F ⟨g4, g5, p8, p9, H⟩
        have t8 : L 8 = true := hd 8 rfl
        have t9 : L 9 = true := hd 9 rfl
        have t10 : L 10 = true := hd 10 rfl
        have f11 : L 11 = false := hun
        rw [t8, t9, t10, f11] at H
        have F := Sx.Fr.to F (kv' := [(31, .agg #[.int .u64 ((Wd.hi m).toNat), .int .u64 ((Wd.lo m).toNat), .int .u32 k0.toNat, .int .u32 k1.toNat, .bool false])]) ⟨rfl, trivial⟩
        have F := Sx.Fr.add F (p8 t8)
        have F := Sx.Fr.add F (p9 t9)
        refine Sx.step_on rfl (Sx.d_store (i := 4) (xs := [.int .u64 ((Wd.hi m).toNat), .int .u64 ((Wd.lo m).toNat), .int .u32 k0.toNat, .int .u32 k1.toNat, .bool false]) (us := [.int .u64 ((Wd.hi m).toNat), .int .u64 ((Wd.lo m).toNat), .int .u32 k0.toNat, .int .u32 k1.toNat, .bool false]) sz_82 F H rfl rfl rfl rfl rfl rfl rfl (Nat.le_of_ble_eq_true rfl) rfl) ?_
        intro xv w' H
        exact ⟨(fun cv hc => by have h := Option.some.inj hc; cases h), ⟨g4, g5, p8, p9, (by show Sx.Own _ _ [(true, g3, [.int .u64 ((Wd.hi m).toNat), .int .u64 ((Wd.lo m).toNat)]), (true, g2, [.int .u64 ((Wd.hi n).toNat), .int .u64 ((Wd.lo n).toNat)]), (true, g1, [.int .u64 ((Wd.hi hc).toNat), .int .u64 ((Wd.lo hc).toNat), .int .u32 k0.toNat, .int .u32 k1.toNat, .bool hb]), (L 8, g4, (cond (L 10) [.int .u64 ((Wd.hi n).toNat), .int .u64 ((Wd.lo n).toNat), .int .u32 k0.toNat, .int .u32 k1.toNat, .bool false] [.int .u64 ((Wd.hi 0#128).toNat), .int .u64 ((Wd.lo 0#128).toNat), .int .u32 0, .int .u32 0, .bool false])), (L 9, g5, (cond (true) [.int .u64 ((Wd.hi m).toNat), .int .u64 ((Wd.lo m).toNat), .int .u32 k0.toNat, .int .u32 k1.toNat, .bool false] [.int .u64 ((Wd.hi 0#128).toNat), .int .u64 ((Wd.lo 0#128).toNat), .int .u32 0, .int .u32 0, .bool false]))] []; rw [t8, t9, t10]; exact H)⟩⟩
    · intro L A w hL F ⟨g4, g5, p8, p9, H⟩
      have t8 : L 8 = true := hL 8 rfl
      have t9 : L 9 = true := hL 9 rfl
      have t10 : L 10 = true := hL 10 rfl
      have t11 : L 11 = true := hL 11 rfl
      rw [t8, t9, t10, t11] at H
      have F := Sx.Fr.add F (p8 t8)
      have F := Sx.Fr.add F (p9 t9)
      have F := Sx.Fr.to F (kv' := [(0, .agg #[.int .u64 ((Wd.hi hc).toNat), .int .u64 ((Wd.lo hc).toNat), .int .u32 k0.toNat, .int .u32 k1.toNat, .bool hb]), (1, .agg #[.int .u64 ((Wd.hi n).toNat), .int .u64 ((Wd.lo n).toNat)]), (2, .agg #[.int .u64 ((Wd.hi m).toNat), .int .u64 ((Wd.lo m).toNat)]), (3, .pointer (some ⟨g1, 0, none⟩)), (4, .pointer (some ⟨g2, 0, none⟩)), (5, .pointer (some ⟨g3, 0, none⟩)), (6, .bool false), (11, .bool true), (12, .bool false), (23, .bool false), (7, .pointer (some ⟨g4, 0, none⟩)), (8, .pointer (some ⟨g5, 0, none⟩))]) ⟨rfl, rfl, rfl, rfl, rfl, rfl, rfl, rfl, rfl, rfl, rfl, rfl, trivial⟩
      refine hK6 _ _ ?_
      refine Sx.seq (fun K7 hK7 => ?_)
      have F := Sx.Fr.to F (kv' := [(0, .agg #[.int .u64 ((Wd.hi hc).toNat), .int .u64 ((Wd.lo hc).toNat), .int .u32 k0.toNat, .int .u32 k1.toNat, .bool hb]), (1, .agg #[.int .u64 ((Wd.hi n).toNat), .int .u64 ((Wd.lo n).toNat)]), (2, .agg #[.int .u64 ((Wd.hi m).toNat), .int .u64 ((Wd.lo m).toNat)]), (3, .pointer (some ⟨g1, 0, none⟩)), (4, .pointer (some ⟨g2, 0, none⟩)), (5, .pointer (some ⟨g3, 0, none⟩)), (6, .bool false), (11, .bool true), (12, .bool false), (23, .bool false), (7, .pointer (some ⟨g4, 0, none⟩)), (8, .pointer (some ⟨g5, 0, none⟩))]) ⟨rfl, rfl, rfl, rfl, rfl, rfl, rfl, rfl, rfl, rfl, rfl, rfl, trivial⟩
      refine Sx.drawn F (by kernel_rfl) (by kernel_rfl) (by kernel_rfl) [some (.agg #[.int .u64 ((Wd.hi n).toNat), .int .u64 ((Wd.lo n).toNat), .int .u32 k0.toNat, .int .u32 k1.toNat, .bool false]), some (.int .u64 ((Hf.word ⟨n, k0, k1, false⟩).toNat)), some (.agg #[.int .u64 ((Wd.hi n).toNat), .int .u64 ((Wd.lo n).toNat), .int .u32 k0.toNat, .int .u32 k1.toNat, .bool false]), some (.agg #[.int .u64 ((Wd.hi n).toNat), .int .u64 ((Wd.lo n).toNat), .int .u32 k0.toNat, .int .u32 k1.toNat, .bool true]), some (.int .u64 ((Hf.word ⟨n, k0, k1, true⟩).toNat)), some (.agg #[.int .u64 ((Hf.word ⟨n, k0, k1, false⟩).toNat), .int .u64 ((Hf.word ⟨n, k0, k1, true⟩).toNat)]), none, none] (fun L A w => ∃ g6 : Nat, (L 6 = true → A.eval (.tmp 9) = .pointer (some ⟨g6, 0, none⟩)) ∧ Sx.Own w0 w [(true, g3, [.int .u64 ((Wd.hi m).toNat), .int .u64 ((Wd.lo m).toNat)]), (true, g2, [.int .u64 ((Wd.hi n).toNat), .int .u64 ((Wd.lo n).toNat)]), (true, g1, [.int .u64 ((Wd.hi hc).toNat), .int .u64 ((Wd.lo hc).toNat), .int .u32 k0.toNat, .int .u32 k1.toNat, .bool hb]), (true, g4, [.int .u64 ((Wd.hi n).toNat), .int .u64 ((Wd.lo n).toNat), .int .u32 k0.toNat, .int .u32 k1.toNat, .bool false]), (true, g5, [.int .u64 ((Wd.hi m).toNat), .int .u64 ((Wd.lo m).toNat), .int .u32 k0.toNat, .int .u32 k1.toNat, .bool false]), (L 6, g6, (cond (L 7) [.int .u64 ((Hf.word ⟨n, k0, k1, false⟩).toNat), .int .u64 ((Hf.word ⟨n, k0, k1, true⟩).toNat)] [.int .u64 0, .int .u64 0]))] []) ⟨0, (fun h => by cases h), H.drew.pad [(false, 0, [.int .u64 0, .int .u64 0])] rfl [] rfl⟩ ?_ ?_
      · refine ⟨?_, ?_, ?_, ?_, ?_, ?_, ?_, ?_, trivial⟩
        · intro L A w up hun hd F ⟨g6, p6, H⟩
          have f7 : L 7 = false := up 7 0 rfl hun
          rw [f7] at H
          have F := Sx.Fr.to F (kv' := [(7, .pointer (some ⟨g4, 0, none⟩))]) ⟨rfl, trivial⟩
          refine Sx.step_on rfl (Sx.d_load (i := 3) (xs := [.int .u64 ((Wd.hi n).toNat), .int .u64 ((Wd.lo n).toNat), .int .u32 k0.toNat, .int .u32 k1.toNat, .bool false]) rw_82 F H rfl rfl rfl rfl rfl) ?_
          rintro xv w' ⟨hx, rfl⟩
          exact ⟨(fun cv hc => hx.trans (Option.some.inj (Option.some.inj hc))), ⟨g6, (fun h => (Sx.put_ne rfl _).trans (p6 h)), (by show Sx.Own _ _ [(true, g3, [.int .u64 ((Wd.hi m).toNat), .int .u64 ((Wd.lo m).toNat)]), (true, g2, [.int .u64 ((Wd.hi n).toNat), .int .u64 ((Wd.lo n).toNat)]), (true, g1, [.int .u64 ((Wd.hi hc).toNat), .int .u64 ((Wd.lo hc).toNat), .int .u32 k0.toNat, .int .u32 k1.toNat, .bool hb]), (true, g4, [.int .u64 ((Wd.hi n).toNat), .int .u64 ((Wd.lo n).toNat), .int .u32 k0.toNat, .int .u32 k1.toNat, .bool false]), (true, g5, [.int .u64 ((Wd.hi m).toNat), .int .u64 ((Wd.lo m).toNat), .int .u32 k0.toNat, .int .u32 k1.toNat, .bool false]), (L 6, g6, (cond (L 7) [.int .u64 ((Hf.word ⟨n, k0, k1, false⟩).toNat), .int .u64 ((Hf.word ⟨n, k0, k1, true⟩).toNat)] [.int .u64 0, .int .u64 0]))] []; rw [f7]; exact H)⟩⟩
        · intro L A w up hun hd F ⟨g6, p6, H⟩
          have f7 : L 7 = false := up 7 1 rfl hun
          rw [f7] at H
          have F := Sx.Fr.to F (kv' := [(32, .agg #[.int .u64 ((Wd.hi n).toNat), .int .u64 ((Wd.lo n).toNat), .int .u32 k0.toNat, .int .u32 k1.toNat, .bool false])]) ⟨rfl, trivial⟩
          refine Sx.step_on rfl (Sx.d_call (vs := [.agg #[.int .u64 ((Wd.hi n).toNat), .int .u64 ((Wd.lo n).toNat), .int .u32 k0.toNat, .int .u32 k1.toNat, .bool false]]) (v := .int .u64 ((Hf.word ⟨n, k0, k1, false⟩).toNat)) if_50 F H rfl rfl (hword_c n k0 k1 false _)) ?_
          rintro xv w' ⟨hx, H⟩
          exact ⟨(fun cv hc => hx.trans (Option.some.inj (Option.some.inj hc))), ⟨g6, (fun h => (Sx.put_ne rfl _).trans (p6 h)), (by show Sx.Own _ _ [(true, g3, [.int .u64 ((Wd.hi m).toNat), .int .u64 ((Wd.lo m).toNat)]), (true, g2, [.int .u64 ((Wd.hi n).toNat), .int .u64 ((Wd.lo n).toNat)]), (true, g1, [.int .u64 ((Wd.hi hc).toNat), .int .u64 ((Wd.lo hc).toNat), .int .u32 k0.toNat, .int .u32 k1.toNat, .bool hb]), (true, g4, [.int .u64 ((Wd.hi n).toNat), .int .u64 ((Wd.lo n).toNat), .int .u32 k0.toNat, .int .u32 k1.toNat, .bool false]), (true, g5, [.int .u64 ((Wd.hi m).toNat), .int .u64 ((Wd.lo m).toNat), .int .u32 k0.toNat, .int .u32 k1.toNat, .bool false]), (L 6, g6, (cond (L 7) [.int .u64 ((Hf.word ⟨n, k0, k1, false⟩).toNat), .int .u64 ((Hf.word ⟨n, k0, k1, true⟩).toNat)] [.int .u64 0, .int .u64 0]))] []; rw [f7]; exact H)⟩⟩
        · intro L A w up hun hd F ⟨g6, p6, H⟩
          have f7 : L 7 = false := up 7 2 rfl hun
          rw [f7] at H
          have F := Sx.Fr.to F (kv' := [(7, .pointer (some ⟨g4, 0, none⟩))]) ⟨rfl, trivial⟩
          refine Sx.step_on rfl (Sx.d_load (i := 3) (xs := [.int .u64 ((Wd.hi n).toNat), .int .u64 ((Wd.lo n).toNat), .int .u32 k0.toNat, .int .u32 k1.toNat, .bool false]) rw_82 F H rfl rfl rfl rfl rfl) ?_
          rintro xv w' ⟨hx, rfl⟩
          exact ⟨(fun cv hc => hx.trans (Option.some.inj (Option.some.inj hc))), ⟨g6, (fun h => (Sx.put_ne rfl _).trans (p6 h)), (by show Sx.Own _ _ [(true, g3, [.int .u64 ((Wd.hi m).toNat), .int .u64 ((Wd.lo m).toNat)]), (true, g2, [.int .u64 ((Wd.hi n).toNat), .int .u64 ((Wd.lo n).toNat)]), (true, g1, [.int .u64 ((Wd.hi hc).toNat), .int .u64 ((Wd.lo hc).toNat), .int .u32 k0.toNat, .int .u32 k1.toNat, .bool hb]), (true, g4, [.int .u64 ((Wd.hi n).toNat), .int .u64 ((Wd.lo n).toNat), .int .u32 k0.toNat, .int .u32 k1.toNat, .bool false]), (true, g5, [.int .u64 ((Wd.hi m).toNat), .int .u64 ((Wd.lo m).toNat), .int .u32 k0.toNat, .int .u32 k1.toNat, .bool false]), (L 6, g6, (cond (L 7) [.int .u64 ((Hf.word ⟨n, k0, k1, false⟩).toNat), .int .u64 ((Hf.word ⟨n, k0, k1, true⟩).toNat)] [.int .u64 0, .int .u64 0]))] []; rw [f7]; exact H)⟩⟩
        · intro L A w up hun hd F ⟨g6, p6, H⟩
          have f7 : L 7 = false := up 7 3 rfl hun
          rw [f7] at H
          have F := Sx.Fr.to F (kv' := [(34, .agg #[.int .u64 ((Wd.hi n).toNat), .int .u64 ((Wd.lo n).toNat), .int .u32 k0.toNat, .int .u32 k1.toNat, .bool false])]) ⟨rfl, trivial⟩
          refine Sx.step_on rfl (Sx.d_call (vs := [.agg #[.int .u64 ((Wd.hi n).toNat), .int .u64 ((Wd.lo n).toNat), .int .u32 k0.toNat, .int .u32 k1.toNat, .bool false]]) (v := .agg #[.int .u64 ((Wd.hi n).toNat), .int .u64 ((Wd.lo n).toNat), .int .u32 k0.toNat, .int .u32 k1.toNat, .bool true]) if_51 F H rfl rfl (hstep_c n k0 k1 false _)) ?_
          rintro xv w' ⟨hx, H⟩
          exact ⟨(fun cv hc => hx.trans (Option.some.inj (Option.some.inj hc))), ⟨g6, (fun h => (Sx.put_ne rfl _).trans (p6 h)), (by show Sx.Own _ _ [(true, g3, [.int .u64 ((Wd.hi m).toNat), .int .u64 ((Wd.lo m).toNat)]), (true, g2, [.int .u64 ((Wd.hi n).toNat), .int .u64 ((Wd.lo n).toNat)]), (true, g1, [.int .u64 ((Wd.hi hc).toNat), .int .u64 ((Wd.lo hc).toNat), .int .u32 k0.toNat, .int .u32 k1.toNat, .bool hb]), (true, g4, [.int .u64 ((Wd.hi n).toNat), .int .u64 ((Wd.lo n).toNat), .int .u32 k0.toNat, .int .u32 k1.toNat, .bool false]), (true, g5, [.int .u64 ((Wd.hi m).toNat), .int .u64 ((Wd.lo m).toNat), .int .u32 k0.toNat, .int .u32 k1.toNat, .bool false]), (L 6, g6, (cond (L 7) [.int .u64 ((Hf.word ⟨n, k0, k1, false⟩).toNat), .int .u64 ((Hf.word ⟨n, k0, k1, true⟩).toNat)] [.int .u64 0, .int .u64 0]))] []; rw [f7]; exact H)⟩⟩
        · intro L A w up hun hd F ⟨g6, p6, H⟩
          have f7 : L 7 = false := up 7 4 rfl hun
          rw [f7] at H
          have F := Sx.Fr.to F (kv' := [(35, .agg #[.int .u64 ((Wd.hi n).toNat), .int .u64 ((Wd.lo n).toNat), .int .u32 k0.toNat, .int .u32 k1.toNat, .bool true])]) ⟨rfl, trivial⟩
          refine Sx.step_on rfl (Sx.d_call (vs := [.agg #[.int .u64 ((Wd.hi n).toNat), .int .u64 ((Wd.lo n).toNat), .int .u32 k0.toNat, .int .u32 k1.toNat, .bool true]]) (v := .int .u64 ((Hf.word ⟨n, k0, k1, true⟩).toNat)) if_50 F H rfl rfl (hword_c n k0 k1 true _)) ?_
          rintro xv w' ⟨hx, H⟩
          exact ⟨(fun cv hc => hx.trans (Option.some.inj (Option.some.inj hc))), ⟨g6, (fun h => (Sx.put_ne rfl _).trans (p6 h)), (by show Sx.Own _ _ [(true, g3, [.int .u64 ((Wd.hi m).toNat), .int .u64 ((Wd.lo m).toNat)]), (true, g2, [.int .u64 ((Wd.hi n).toNat), .int .u64 ((Wd.lo n).toNat)]), (true, g1, [.int .u64 ((Wd.hi hc).toNat), .int .u64 ((Wd.lo hc).toNat), .int .u32 k0.toNat, .int .u32 k1.toNat, .bool hb]), (true, g4, [.int .u64 ((Wd.hi n).toNat), .int .u64 ((Wd.lo n).toNat), .int .u32 k0.toNat, .int .u32 k1.toNat, .bool false]), (true, g5, [.int .u64 ((Wd.hi m).toNat), .int .u64 ((Wd.lo m).toNat), .int .u32 k0.toNat, .int .u32 k1.toNat, .bool false]), (L 6, g6, (cond (L 7) [.int .u64 ((Hf.word ⟨n, k0, k1, false⟩).toNat), .int .u64 ((Hf.word ⟨n, k0, k1, true⟩).toNat)] [.int .u64 0, .int .u64 0]))] []; rw [f7]; exact H)⟩⟩
        · intro L A w up hun hd F ⟨g6, p6, H⟩
          have f7 : L 7 = false := up 7 5 rfl hun
          rw [f7] at H
          have F := Sx.Fr.to F (kv' := [(33, .int .u64 ((Hf.word ⟨n, k0, k1, false⟩).toNat)), (36, .int .u64 ((Hf.word ⟨n, k0, k1, true⟩).toNat))]) ⟨rfl, rfl, trivial⟩
          refine Sx.step_on rfl (Sx.d_build (qs := #[(0, .int .u64 ((Hf.word ⟨n, k0, k1, false⟩).toNat)), (1, .int .u64 ((Hf.word ⟨n, k0, k1, true⟩).toNat))]) (v := .agg #[.int .u64 ((Hf.word ⟨n, k0, k1, false⟩).toNat), .int .u64 ((Hf.word ⟨n, k0, k1, true⟩).toNat)]) F rfl rfl (by kernel_rfl)) ?_
          rintro xv w' ⟨hx, rfl⟩
          exact ⟨(fun cv hc => hx.trans (Option.some.inj (Option.some.inj hc))), ⟨g6, (fun h => (Sx.put_ne rfl _).trans (p6 h)), (by show Sx.Own _ _ [(true, g3, [.int .u64 ((Wd.hi m).toNat), .int .u64 ((Wd.lo m).toNat)]), (true, g2, [.int .u64 ((Wd.hi n).toNat), .int .u64 ((Wd.lo n).toNat)]), (true, g1, [.int .u64 ((Wd.hi hc).toNat), .int .u64 ((Wd.lo hc).toNat), .int .u32 k0.toNat, .int .u32 k1.toNat, .bool hb]), (true, g4, [.int .u64 ((Wd.hi n).toNat), .int .u64 ((Wd.lo n).toNat), .int .u32 k0.toNat, .int .u32 k1.toNat, .bool false]), (true, g5, [.int .u64 ((Wd.hi m).toNat), .int .u64 ((Wd.lo m).toNat), .int .u32 k0.toNat, .int .u32 k1.toNat, .bool false]), (L 6, g6, (cond (L 7) [.int .u64 ((Hf.word ⟨n, k0, k1, false⟩).toNat), .int .u64 ((Hf.word ⟨n, k0, k1, true⟩).toNat)] [.int .u64 0, .int .u64 0]))] []; rw [f7]; exact H)⟩⟩
        · intro L A w up hun hd F ⟨g6, p6, H⟩
          have f6 : L 6 = false := hun
          have f7 : L 7 = false := up 7 6 rfl hun
          rw [f6, f7] at H
          have F := Sx.Fr.to F (kv' := []) trivial
          refine Sx.step_on rfl (Sx.d_alloc_at H rfl 5 [.int .u64 0, .int .u64 0] zero_101) ?_
          rintro xv w' ⟨g', hx, H⟩
          exact ⟨(fun cv hc => by have h := Option.some.inj hc; cases h), ⟨g', (fun _ => (Sx.put_same F (by decide) _).trans hx), (by show Sx.Own _ _ [(true, g3, [.int .u64 ((Wd.hi m).toNat), .int .u64 ((Wd.lo m).toNat)]), (true, g2, [.int .u64 ((Wd.hi n).toNat), .int .u64 ((Wd.lo n).toNat)]), (true, g1, [.int .u64 ((Wd.hi hc).toNat), .int .u64 ((Wd.lo hc).toNat), .int .u32 k0.toNat, .int .u32 k1.toNat, .bool hb]), (true, g4, [.int .u64 ((Wd.hi n).toNat), .int .u64 ((Wd.lo n).toNat), .int .u32 k0.toNat, .int .u32 k1.toNat, .bool false]), (true, g5, [.int .u64 ((Wd.hi m).toNat), .int .u64 ((Wd.lo m).toNat), .int .u32 k0.toNat, .int .u32 k1.toNat, .bool false]), (true, g', (cond (L 7) [.int .u64 ((Hf.word ⟨n, k0, k1, false⟩).toNat), .int .u64 ((Hf.word ⟨n, k0, k1, true⟩).toNat)] [.int .u64 0, .int .u64 0]))] []; rw [f7]; exact H)⟩⟩
        · intro L A w up hun hd F ⟨g6, p6, H⟩
          have t6 : L 6 = true := hd 6 rfl
          have f7 : L 7 = false := hun
          rw [t6, f7] at H
          have F := Sx.Fr.to F (kv' := [(37, .agg #[.int .u64 ((Hf.word ⟨n, k0, k1, false⟩).toNat), .int .u64 ((Hf.word ⟨n, k0, k1, true⟩).toNat)])]) ⟨rfl, trivial⟩
          have F := Sx.Fr.add F (p6 t6)
          refine Sx.step_on rfl (Sx.d_store (i := 5) (xs := [.int .u64 ((Hf.word ⟨n, k0, k1, false⟩).toNat), .int .u64 ((Hf.word ⟨n, k0, k1, true⟩).toNat)]) (us := [.int .u64 ((Hf.word ⟨n, k0, k1, false⟩).toNat), .int .u64 ((Hf.word ⟨n, k0, k1, true⟩).toNat)]) sz_101 F H rfl rfl rfl rfl rfl rfl rfl (Nat.le_of_ble_eq_true rfl) rfl) ?_
          intro xv w' H
          exact ⟨(fun cv hc => by have h := Option.some.inj hc; cases h), ⟨g6, p6, (by show Sx.Own _ _ [(true, g3, [.int .u64 ((Wd.hi m).toNat), .int .u64 ((Wd.lo m).toNat)]), (true, g2, [.int .u64 ((Wd.hi n).toNat), .int .u64 ((Wd.lo n).toNat)]), (true, g1, [.int .u64 ((Wd.hi hc).toNat), .int .u64 ((Wd.lo hc).toNat), .int .u32 k0.toNat, .int .u32 k1.toNat, .bool hb]), (true, g4, [.int .u64 ((Wd.hi n).toNat), .int .u64 ((Wd.lo n).toNat), .int .u32 k0.toNat, .int .u32 k1.toNat, .bool false]), (true, g5, [.int .u64 ((Wd.hi m).toNat), .int .u64 ((Wd.lo m).toNat), .int .u32 k0.toNat, .int .u32 k1.toNat, .bool false]), (L 6, g6, (cond (true) [.int .u64 ((Hf.word ⟨n, k0, k1, false⟩).toNat), .int .u64 ((Hf.word ⟨n, k0, k1, true⟩).toNat)] [.int .u64 0, .int .u64 0]))] []; rw [t6]; exact H)⟩⟩
      · intro L A w hL F ⟨g6, p6, H⟩
        have t6 : L 6 = true := hL 6 rfl
        have t7 : L 7 = true := hL 7 rfl
        rw [t6, t7] at H
        have F := Sx.Fr.add F (p6 t6)
        have F := Sx.Fr.to F (kv' := [(0, .agg #[.int .u64 ((Wd.hi hc).toNat), .int .u64 ((Wd.lo hc).toNat), .int .u32 k0.toNat, .int .u32 k1.toNat, .bool hb]), (1, .agg #[.int .u64 ((Wd.hi n).toNat), .int .u64 ((Wd.lo n).toNat)]), (2, .agg #[.int .u64 ((Wd.hi m).toNat), .int .u64 ((Wd.lo m).toNat)]), (3, .pointer (some ⟨g1, 0, none⟩)), (4, .pointer (some ⟨g2, 0, none⟩)), (5, .pointer (some ⟨g3, 0, none⟩)), (6, .bool false), (11, .bool true), (12, .bool false), (23, .bool false), (7, .pointer (some ⟨g4, 0, none⟩)), (8, .pointer (some ⟨g5, 0, none⟩)), (9, .pointer (some ⟨g6, 0, none⟩))]) ⟨rfl, rfl, rfl, rfl, rfl, rfl, rfl, rfl, rfl, rfl, rfl, rfl, rfl, trivial⟩
        refine hK7 _ _ ?_
        refine Sx.seq (fun K8 hK8 => ?_)
        have F := Sx.Fr.to F (kv' := [(0, .agg #[.int .u64 ((Wd.hi hc).toNat), .int .u64 ((Wd.lo hc).toNat), .int .u32 k0.toNat, .int .u32 k1.toNat, .bool hb]), (1, .agg #[.int .u64 ((Wd.hi n).toNat), .int .u64 ((Wd.lo n).toNat)]), (2, .agg #[.int .u64 ((Wd.hi m).toNat), .int .u64 ((Wd.lo m).toNat)]), (3, .pointer (some ⟨g1, 0, none⟩)), (4, .pointer (some ⟨g2, 0, none⟩)), (5, .pointer (some ⟨g3, 0, none⟩)), (6, .bool false), (11, .bool true), (12, .bool false), (23, .bool false), (7, .pointer (some ⟨g4, 0, none⟩)), (8, .pointer (some ⟨g5, 0, none⟩)), (9, .pointer (some ⟨g6, 0, none⟩))]) ⟨rfl, rfl, rfl, rfl, rfl, rfl, rfl, rfl, rfl, rfl, rfl, rfl, rfl, trivial⟩
        refine Sx.drawn F (by kernel_rfl) (by kernel_rfl) (by kernel_rfl) [some (.agg #[.int .u64 ((Wd.hi m).toNat), .int .u64 ((Wd.lo m).toNat), .int .u32 k0.toNat, .int .u32 k1.toNat, .bool false]), some (.int .u64 ((Hf.word ⟨m, k0, k1, false⟩).toNat)), some (.agg #[.int .u64 ((Wd.hi m).toNat), .int .u64 ((Wd.lo m).toNat), .int .u32 k0.toNat, .int .u32 k1.toNat, .bool false]), some (.agg #[.int .u64 ((Wd.hi m).toNat), .int .u64 ((Wd.lo m).toNat), .int .u32 k0.toNat, .int .u32 k1.toNat, .bool true]), some (.int .u64 ((Hf.word ⟨m, k0, k1, true⟩).toNat)), some (.agg #[.int .u64 ((Hf.word ⟨m, k0, k1, false⟩).toNat), .int .u64 ((Hf.word ⟨m, k0, k1, true⟩).toNat)]), none, none] (fun L A w => ∃ g7 : Nat, (L 6 = true → A.eval (.tmp 10) = .pointer (some ⟨g7, 0, none⟩)) ∧ Sx.Own w0 w [(true, g3, [.int .u64 ((Wd.hi m).toNat), .int .u64 ((Wd.lo m).toNat)]), (true, g2, [.int .u64 ((Wd.hi n).toNat), .int .u64 ((Wd.lo n).toNat)]), (true, g1, [.int .u64 ((Wd.hi hc).toNat), .int .u64 ((Wd.lo hc).toNat), .int .u32 k0.toNat, .int .u32 k1.toNat, .bool hb]), (true, g4, [.int .u64 ((Wd.hi n).toNat), .int .u64 ((Wd.lo n).toNat), .int .u32 k0.toNat, .int .u32 k1.toNat, .bool false]), (true, g5, [.int .u64 ((Wd.hi m).toNat), .int .u64 ((Wd.lo m).toNat), .int .u32 k0.toNat, .int .u32 k1.toNat, .bool false]), (true, g6, [.int .u64 ((Hf.word ⟨n, k0, k1, false⟩).toNat), .int .u64 ((Hf.word ⟨n, k0, k1, true⟩).toNat)]), (L 6, g7, (cond (L 7) [.int .u64 ((Hf.word ⟨m, k0, k1, false⟩).toNat), .int .u64 ((Hf.word ⟨m, k0, k1, true⟩).toNat)] [.int .u64 0, .int .u64 0]))] []) ⟨0, (fun h => by cases h), H.drew.pad [(false, 0, [.int .u64 0, .int .u64 0])] rfl [] rfl⟩ ?_ ?_
        · refine ⟨?_, ?_, ?_, ?_, ?_, ?_, ?_, ?_, trivial⟩
          · intro L A w up hun hd F ⟨g7, p6, H⟩
            have f7 : L 7 = false := up 7 0 rfl hun
            rw [f7] at H
            have F := Sx.Fr.to F (kv' := [(8, .pointer (some ⟨g5, 0, none⟩))]) ⟨rfl, trivial⟩
            refine Sx.step_on rfl (Sx.d_load (i := 4) (xs := [.int .u64 ((Wd.hi m).toNat), .int .u64 ((Wd.lo m).toNat), .int .u32 k0.toNat, .int .u32 k1.toNat, .bool false]) rw_82 F H rfl rfl rfl rfl rfl) ?_
            rintro xv w' ⟨hx, rfl⟩
            exact ⟨(fun cv hc => hx.trans (Option.some.inj (Option.some.inj hc))), ⟨g7, (fun h => (Sx.put_ne rfl _).trans (p6 h)), (by show Sx.Own _ _ [(true, g3, [.int .u64 ((Wd.hi m).toNat), .int .u64 ((Wd.lo m).toNat)]), (true, g2, [.int .u64 ((Wd.hi n).toNat), .int .u64 ((Wd.lo n).toNat)]), (true, g1, [.int .u64 ((Wd.hi hc).toNat), .int .u64 ((Wd.lo hc).toNat), .int .u32 k0.toNat, .int .u32 k1.toNat, .bool hb]), (true, g4, [.int .u64 ((Wd.hi n).toNat), .int .u64 ((Wd.lo n).toNat), .int .u32 k0.toNat, .int .u32 k1.toNat, .bool false]), (true, g5, [.int .u64 ((Wd.hi m).toNat), .int .u64 ((Wd.lo m).toNat), .int .u32 k0.toNat, .int .u32 k1.toNat, .bool false]), (true, g6, [.int .u64 ((Hf.word ⟨n, k0, k1, false⟩).toNat), .int .u64 ((Hf.word ⟨n, k0, k1, true⟩).toNat)]), (L 6, g7, (cond (L 7) [.int .u64 ((Hf.word ⟨m, k0, k1, false⟩).toNat), .int .u64 ((Hf.word ⟨m, k0, k1, true⟩).toNat)] [.int .u64 0, .int .u64 0]))] []; rw [f7]; exact H)⟩⟩
          · intro L A w up hun hd F ⟨g7, p6, H⟩
            have f7 : L 7 = false := up 7 1 rfl hun
            rw [f7] at H
            have F := Sx.Fr.to F (kv' := [(38, .agg #[.int .u64 ((Wd.hi m).toNat), .int .u64 ((Wd.lo m).toNat), .int .u32 k0.toNat, .int .u32 k1.toNat, .bool false])]) ⟨rfl, trivial⟩
            refine Sx.step_on rfl (Sx.d_call (vs := [.agg #[.int .u64 ((Wd.hi m).toNat), .int .u64 ((Wd.lo m).toNat), .int .u32 k0.toNat, .int .u32 k1.toNat, .bool false]]) (v := .int .u64 ((Hf.word ⟨m, k0, k1, false⟩).toNat)) if_50 F H rfl rfl (hword_c m k0 k1 false _)) ?_
            rintro xv w' ⟨hx, H⟩
            exact ⟨(fun cv hc => hx.trans (Option.some.inj (Option.some.inj hc))), ⟨g7, (fun h => (Sx.put_ne rfl _).trans (p6 h)), (by show Sx.Own _ _ [(true, g3, [.int .u64 ((Wd.hi m).toNat), .int .u64 ((Wd.lo m).toNat)]), (true, g2, [.int .u64 ((Wd.hi n).toNat), .int .u64 ((Wd.lo n).toNat)]), (true, g1, [.int .u64 ((Wd.hi hc).toNat), .int .u64 ((Wd.lo hc).toNat), .int .u32 k0.toNat, .int .u32 k1.toNat, .bool hb]), (true, g4, [.int .u64 ((Wd.hi n).toNat), .int .u64 ((Wd.lo n).toNat), .int .u32 k0.toNat, .int .u32 k1.toNat, .bool false]), (true, g5, [.int .u64 ((Wd.hi m).toNat), .int .u64 ((Wd.lo m).toNat), .int .u32 k0.toNat, .int .u32 k1.toNat, .bool false]), (true, g6, [.int .u64 ((Hf.word ⟨n, k0, k1, false⟩).toNat), .int .u64 ((Hf.word ⟨n, k0, k1, true⟩).toNat)]), (L 6, g7, (cond (L 7) [.int .u64 ((Hf.word ⟨m, k0, k1, false⟩).toNat), .int .u64 ((Hf.word ⟨m, k0, k1, true⟩).toNat)] [.int .u64 0, .int .u64 0]))] []; rw [f7]; exact H)⟩⟩
          · intro L A w up hun hd F ⟨g7, p6, H⟩
            have f7 : L 7 = false := up 7 2 rfl hun
            rw [f7] at H
            have F := Sx.Fr.to F (kv' := [(8, .pointer (some ⟨g5, 0, none⟩))]) ⟨rfl, trivial⟩
            refine Sx.step_on rfl (Sx.d_load (i := 4) (xs := [.int .u64 ((Wd.hi m).toNat), .int .u64 ((Wd.lo m).toNat), .int .u32 k0.toNat, .int .u32 k1.toNat, .bool false]) rw_82 F H rfl rfl rfl rfl rfl) ?_
            rintro xv w' ⟨hx, rfl⟩
            exact ⟨(fun cv hc => hx.trans (Option.some.inj (Option.some.inj hc))), ⟨g7, (fun h => (Sx.put_ne rfl _).trans (p6 h)), (by show Sx.Own _ _ [(true, g3, [.int .u64 ((Wd.hi m).toNat), .int .u64 ((Wd.lo m).toNat)]), (true, g2, [.int .u64 ((Wd.hi n).toNat), .int .u64 ((Wd.lo n).toNat)]), (true, g1, [.int .u64 ((Wd.hi hc).toNat), .int .u64 ((Wd.lo hc).toNat), .int .u32 k0.toNat, .int .u32 k1.toNat, .bool hb]), (true, g4, [.int .u64 ((Wd.hi n).toNat), .int .u64 ((Wd.lo n).toNat), .int .u32 k0.toNat, .int .u32 k1.toNat, .bool false]), (true, g5, [.int .u64 ((Wd.hi m).toNat), .int .u64 ((Wd.lo m).toNat), .int .u32 k0.toNat, .int .u32 k1.toNat, .bool false]), (true, g6, [.int .u64 ((Hf.word ⟨n, k0, k1, false⟩).toNat), .int .u64 ((Hf.word ⟨n, k0, k1, true⟩).toNat)]), (L 6, g7, (cond (L 7) [.int .u64 ((Hf.word ⟨m, k0, k1, false⟩).toNat), .int .u64 ((Hf.word ⟨m, k0, k1, true⟩).toNat)] [.int .u64 0, .int .u64 0]))] []; rw [f7]; exact H)⟩⟩
          · intro L A w up hun hd F ⟨g7, p6, H⟩
            have f7 : L 7 = false := up 7 3 rfl hun
            rw [f7] at H
            have F := Sx.Fr.to F (kv' := [(40, .agg #[.int .u64 ((Wd.hi m).toNat), .int .u64 ((Wd.lo m).toNat), .int .u32 k0.toNat, .int .u32 k1.toNat, .bool false])]) ⟨rfl, trivial⟩
            refine Sx.step_on rfl (Sx.d_call (vs := [.agg #[.int .u64 ((Wd.hi m).toNat), .int .u64 ((Wd.lo m).toNat), .int .u32 k0.toNat, .int .u32 k1.toNat, .bool false]]) (v := .agg #[.int .u64 ((Wd.hi m).toNat), .int .u64 ((Wd.lo m).toNat), .int .u32 k0.toNat, .int .u32 k1.toNat, .bool true]) if_51 F H rfl rfl (hstep_c m k0 k1 false _)) ?_
            rintro xv w' ⟨hx, H⟩
            exact ⟨(fun cv hc => hx.trans (Option.some.inj (Option.some.inj hc))), ⟨g7, (fun h => (Sx.put_ne rfl _).trans (p6 h)), (by show Sx.Own _ _ [(true, g3, [.int .u64 ((Wd.hi m).toNat), .int .u64 ((Wd.lo m).toNat)]), (true, g2, [.int .u64 ((Wd.hi n).toNat), .int .u64 ((Wd.lo n).toNat)]), (true, g1, [.int .u64 ((Wd.hi hc).toNat), .int .u64 ((Wd.lo hc).toNat), .int .u32 k0.toNat, .int .u32 k1.toNat, .bool hb]), (true, g4, [.int .u64 ((Wd.hi n).toNat), .int .u64 ((Wd.lo n).toNat), .int .u32 k0.toNat, .int .u32 k1.toNat, .bool false]), (true, g5, [.int .u64 ((Wd.hi m).toNat), .int .u64 ((Wd.lo m).toNat), .int .u32 k0.toNat, .int .u32 k1.toNat, .bool false]), (true, g6, [.int .u64 ((Hf.word ⟨n, k0, k1, false⟩).toNat), .int .u64 ((Hf.word ⟨n, k0, k1, true⟩).toNat)]), (L 6, g7, (cond (L 7) [.int .u64 ((Hf.word ⟨m, k0, k1, false⟩).toNat), .int .u64 ((Hf.word ⟨m, k0, k1, true⟩).toNat)] [.int .u64 0, .int .u64 0]))] []; rw [f7]; exact H)⟩⟩
          · intro L A w up hun hd F ⟨g7, p6, H⟩
            have f7 : L 7 = false := up 7 4 rfl hun
            rw [f7] at H
            have F := Sx.Fr.to F (kv' := [(41, .agg #[.int .u64 ((Wd.hi m).toNat), .int .u64 ((Wd.lo m).toNat), .int .u32 k0.toNat, .int .u32 k1.toNat, .bool true])]) ⟨rfl, trivial⟩
            refine Sx.step_on rfl (Sx.d_call (vs := [.agg #[.int .u64 ((Wd.hi m).toNat), .int .u64 ((Wd.lo m).toNat), .int .u32 k0.toNat, .int .u32 k1.toNat, .bool true]]) (v := .int .u64 ((Hf.word ⟨m, k0, k1, true⟩).toNat)) if_50 F H rfl rfl (hword_c m k0 k1 true _)) ?_
            rintro xv w' ⟨hx, H⟩
            exact ⟨(fun cv hc => hx.trans (Option.some.inj (Option.some.inj hc))), ⟨g7, (fun h => (Sx.put_ne rfl _).trans (p6 h)), (by show Sx.Own _ _ [(true, g3, [.int .u64 ((Wd.hi m).toNat), .int .u64 ((Wd.lo m).toNat)]), (true, g2, [.int .u64 ((Wd.hi n).toNat), .int .u64 ((Wd.lo n).toNat)]), (true, g1, [.int .u64 ((Wd.hi hc).toNat), .int .u64 ((Wd.lo hc).toNat), .int .u32 k0.toNat, .int .u32 k1.toNat, .bool hb]), (true, g4, [.int .u64 ((Wd.hi n).toNat), .int .u64 ((Wd.lo n).toNat), .int .u32 k0.toNat, .int .u32 k1.toNat, .bool false]), (true, g5, [.int .u64 ((Wd.hi m).toNat), .int .u64 ((Wd.lo m).toNat), .int .u32 k0.toNat, .int .u32 k1.toNat, .bool false]), (true, g6, [.int .u64 ((Hf.word ⟨n, k0, k1, false⟩).toNat), .int .u64 ((Hf.word ⟨n, k0, k1, true⟩).toNat)]), (L 6, g7, (cond (L 7) [.int .u64 ((Hf.word ⟨m, k0, k1, false⟩).toNat), .int .u64 ((Hf.word ⟨m, k0, k1, true⟩).toNat)] [.int .u64 0, .int .u64 0]))] []; rw [f7]; exact H)⟩⟩
          · intro L A w up hun hd F ⟨g7, p6, H⟩
            have f7 : L 7 = false := up 7 5 rfl hun
            rw [f7] at H
            have F := Sx.Fr.to F (kv' := [(39, .int .u64 ((Hf.word ⟨m, k0, k1, false⟩).toNat)), (42, .int .u64 ((Hf.word ⟨m, k0, k1, true⟩).toNat))]) ⟨rfl, rfl, trivial⟩
            refine Sx.step_on rfl (Sx.d_build (qs := #[(0, .int .u64 ((Hf.word ⟨m, k0, k1, false⟩).toNat)), (1, .int .u64 ((Hf.word ⟨m, k0, k1, true⟩).toNat))]) (v := .agg #[.int .u64 ((Hf.word ⟨m, k0, k1, false⟩).toNat), .int .u64 ((Hf.word ⟨m, k0, k1, true⟩).toNat)]) F rfl rfl (by kernel_rfl)) ?_
            rintro xv w' ⟨hx, rfl⟩
            exact ⟨(fun cv hc => hx.trans (Option.some.inj (Option.some.inj hc))), ⟨g7, (fun h => (Sx.put_ne rfl _).trans (p6 h)), (by show Sx.Own _ _ [(true, g3, [.int .u64 ((Wd.hi m).toNat), .int .u64 ((Wd.lo m).toNat)]), (true, g2, [.int .u64 ((Wd.hi n).toNat), .int .u64 ((Wd.lo n).toNat)]), (true, g1, [.int .u64 ((Wd.hi hc).toNat), .int .u64 ((Wd.lo hc).toNat), .int .u32 k0.toNat, .int .u32 k1.toNat, .bool hb]), (true, g4, [.int .u64 ((Wd.hi n).toNat), .int .u64 ((Wd.lo n).toNat), .int .u32 k0.toNat, .int .u32 k1.toNat, .bool false]), (true, g5, [.int .u64 ((Wd.hi m).toNat), .int .u64 ((Wd.lo m).toNat), .int .u32 k0.toNat, .int .u32 k1.toNat, .bool false]), (true, g6, [.int .u64 ((Hf.word ⟨n, k0, k1, false⟩).toNat), .int .u64 ((Hf.word ⟨n, k0, k1, true⟩).toNat)]), (L 6, g7, (cond (L 7) [.int .u64 ((Hf.word ⟨m, k0, k1, false⟩).toNat), .int .u64 ((Hf.word ⟨m, k0, k1, true⟩).toNat)] [.int .u64 0, .int .u64 0]))] []; rw [f7]; exact H)⟩⟩
          · intro L A w up hun hd F ⟨g7, p6, H⟩
            have f6 : L 6 = false := hun
            have f7 : L 7 = false := up 7 6 rfl hun
            rw [f6, f7] at H
            have F := Sx.Fr.to F (kv' := []) trivial
            refine Sx.step_on rfl (Sx.d_alloc_at H rfl 6 [.int .u64 0, .int .u64 0] zero_101) ?_
            rintro xv w' ⟨g', hx, H⟩
            exact ⟨(fun cv hc => by have h := Option.some.inj hc; cases h), ⟨g', (fun _ => (Sx.put_same F (by decide) _).trans hx), (by show Sx.Own _ _ [(true, g3, [.int .u64 ((Wd.hi m).toNat), .int .u64 ((Wd.lo m).toNat)]), (true, g2, [.int .u64 ((Wd.hi n).toNat), .int .u64 ((Wd.lo n).toNat)]), (true, g1, [.int .u64 ((Wd.hi hc).toNat), .int .u64 ((Wd.lo hc).toNat), .int .u32 k0.toNat, .int .u32 k1.toNat, .bool hb]), (true, g4, [.int .u64 ((Wd.hi n).toNat), .int .u64 ((Wd.lo n).toNat), .int .u32 k0.toNat, .int .u32 k1.toNat, .bool false]), (true, g5, [.int .u64 ((Wd.hi m).toNat), .int .u64 ((Wd.lo m).toNat), .int .u32 k0.toNat, .int .u32 k1.toNat, .bool false]), (true, g6, [.int .u64 ((Hf.word ⟨n, k0, k1, false⟩).toNat), .int .u64 ((Hf.word ⟨n, k0, k1, true⟩).toNat)]), (true, g', (cond (L 7) [.int .u64 ((Hf.word ⟨m, k0, k1, false⟩).toNat), .int .u64 ((Hf.word ⟨m, k0, k1, true⟩).toNat)] [.int .u64 0, .int .u64 0]))] []; rw [f7]; exact H)⟩⟩
          · intro L A w up hun hd F ⟨g7, p6, H⟩
            have t6 : L 6 = true := hd 6 rfl
            have f7 : L 7 = false := hun
            rw [t6, f7] at H
            have F := Sx.Fr.to F (kv' := [(43, .agg #[.int .u64 ((Hf.word ⟨m, k0, k1, false⟩).toNat), .int .u64 ((Hf.word ⟨m, k0, k1, true⟩).toNat)])]) ⟨rfl, trivial⟩
            have F := Sx.Fr.add F (p6 t6)
            refine Sx.step_on rfl (Sx.d_store (i := 6) (xs := [.int .u64 ((Hf.word ⟨m, k0, k1, false⟩).toNat), .int .u64 ((Hf.word ⟨m, k0, k1, true⟩).toNat)]) (us := [.int .u64 ((Hf.word ⟨m, k0, k1, false⟩).toNat), .int .u64 ((Hf.word ⟨m, k0, k1, true⟩).toNat)]) sz_101 F H rfl rfl rfl rfl rfl rfl rfl (Nat.le_of_ble_eq_true rfl) rfl) ?_
            intro xv w' H
            exact ⟨(fun cv hc => by have h := Option.some.inj hc; cases h), ⟨g7, p6, (by show Sx.Own _ _ [(true, g3, [.int .u64 ((Wd.hi m).toNat), .int .u64 ((Wd.lo m).toNat)]), (true, g2, [.int .u64 ((Wd.hi n).toNat), .int .u64 ((Wd.lo n).toNat)]), (true, g1, [.int .u64 ((Wd.hi hc).toNat), .int .u64 ((Wd.lo hc).toNat), .int .u32 k0.toNat, .int .u32 k1.toNat, .bool hb]), (true, g4, [.int .u64 ((Wd.hi n).toNat), .int .u64 ((Wd.lo n).toNat), .int .u32 k0.toNat, .int .u32 k1.toNat, .bool false]), (true, g5, [.int .u64 ((Wd.hi m).toNat), .int .u64 ((Wd.lo m).toNat), .int .u32 k0.toNat, .int .u32 k1.toNat, .bool false]), (true, g6, [.int .u64 ((Hf.word ⟨n, k0, k1, false⟩).toNat), .int .u64 ((Hf.word ⟨n, k0, k1, true⟩).toNat)]), (L 6, g7, (cond (true) [.int .u64 ((Hf.word ⟨m, k0, k1, false⟩).toNat), .int .u64 ((Hf.word ⟨m, k0, k1, true⟩).toNat)] [.int .u64 0, .int .u64 0]))] []; rw [t6]; exact H)⟩⟩
        · intro L A w hL F ⟨g7, p6, H⟩
          have t6 : L 6 = true := hL 6 rfl
          have t7 : L 7 = true := hL 7 rfl
          rw [t6, t7] at H
          have F := Sx.Fr.add F (p6 t6)
          have F := Sx.Fr.to F (kv' := [(0, .agg #[.int .u64 ((Wd.hi hc).toNat), .int .u64 ((Wd.lo hc).toNat), .int .u32 k0.toNat, .int .u32 k1.toNat, .bool hb]), (1, .agg #[.int .u64 ((Wd.hi n).toNat), .int .u64 ((Wd.lo n).toNat)]), (2, .agg #[.int .u64 ((Wd.hi m).toNat), .int .u64 ((Wd.lo m).toNat)]), (3, .pointer (some ⟨g1, 0, none⟩)), (4, .pointer (some ⟨g2, 0, none⟩)), (5, .pointer (some ⟨g3, 0, none⟩)), (6, .bool false), (11, .bool true), (12, .bool false), (23, .bool false), (7, .pointer (some ⟨g4, 0, none⟩)), (8, .pointer (some ⟨g5, 0, none⟩)), (9, .pointer (some ⟨g6, 0, none⟩)), (10, .pointer (some ⟨g7, 0, none⟩))]) ⟨rfl, rfl, rfl, rfl, rfl, rfl, rfl, rfl, rfl, rfl, rfl, rfl, rfl, rfl, trivial⟩
          refine hK8 _ _ ?_
          refine Sx.seq (fun K9 hK9 => ?_)
          have F := Sx.Fr.to F (kv' := [(0, .agg #[.int .u64 ((Wd.hi hc).toNat), .int .u64 ((Wd.lo hc).toNat), .int .u32 k0.toNat, .int .u32 k1.toNat, .bool hb]), (1, .agg #[.int .u64 ((Wd.hi n).toNat), .int .u64 ((Wd.lo n).toNat)]), (2, .agg #[.int .u64 ((Wd.hi m).toNat), .int .u64 ((Wd.lo m).toNat)]), (3, .pointer (some ⟨g1, 0, none⟩)), (4, .pointer (some ⟨g2, 0, none⟩)), (5, .pointer (some ⟨g3, 0, none⟩)), (11, .bool true), (12, .bool false), (23, .bool false), (7, .pointer (some ⟨g4, 0, none⟩)), (8, .pointer (some ⟨g5, 0, none⟩)), (9, .pointer (some ⟨g6, 0, none⟩)), (10, .pointer (some ⟨g7, 0, none⟩))]) ⟨rfl, rfl, rfl, rfl, rfl, rfl, rfl, rfl, rfl, rfl, rfl, rfl, rfl, trivial⟩
          refine Sx.drawn F (by kernel_rfl) (by kernel_rfl) (by kernel_rfl) [some (.agg #[.int .u64 ((Hf.word ⟨n, k0, k1, false⟩).toNat), .int .u64 ((Hf.word ⟨n, k0, k1, true⟩).toNat)]), some (.agg #[.int .u64 ((Hf.word ⟨m, k0, k1, false⟩).toNat), .int .u64 ((Hf.word ⟨m, k0, k1, true⟩).toNat)]), some (.bool false), some (.agg #[.int .u64 ((Wd.hi n).toNat), .int .u64 ((Wd.lo n).toNat)]), some (.agg #[.int .u64 ((Wd.hi m).toNat), .int .u64 ((Wd.lo m).toNat)]), some (.bool false), some (.bool true), some (.bool true)] (fun L A w => Sx.Own w0 w [(true, g3, [.int .u64 ((Wd.hi m).toNat), .int .u64 ((Wd.lo m).toNat)]), (true, g2, [.int .u64 ((Wd.hi n).toNat), .int .u64 ((Wd.lo n).toNat)]), (true, g1, [.int .u64 ((Wd.hi hc).toNat), .int .u64 ((Wd.lo hc).toNat), .int .u32 k0.toNat, .int .u32 k1.toNat, .bool hb]), (true, g4, [.int .u64 ((Wd.hi n).toNat), .int .u64 ((Wd.lo n).toNat), .int .u32 k0.toNat, .int .u32 k1.toNat, .bool false]), (true, g5, [.int .u64 ((Wd.hi m).toNat), .int .u64 ((Wd.lo m).toNat), .int .u32 k0.toNat, .int .u32 k1.toNat, .bool false]), (true, g6, [.int .u64 ((Hf.word ⟨n, k0, k1, false⟩).toNat), .int .u64 ((Hf.word ⟨n, k0, k1, true⟩).toNat)]), (true, g7, [.int .u64 ((Hf.word ⟨m, k0, k1, false⟩).toNat), .int .u64 ((Hf.word ⟨m, k0, k1, true⟩).toNat)])] []) H.drew ?_ ?_
          · refine ⟨?_, ?_, ?_, ?_, ?_, ?_, ?_, ?_, trivial⟩
            · intro L A w up hun hd F H
              have F := Sx.Fr.to F (kv' := [(9, .pointer (some ⟨g6, 0, none⟩))]) ⟨rfl, trivial⟩
              refine Sx.step_on rfl (Sx.d_load (i := 5) (xs := [.int .u64 ((Hf.word ⟨n, k0, k1, false⟩).toNat), .int .u64 ((Hf.word ⟨n, k0, k1, true⟩).toNat)]) rw_101 F H rfl rfl rfl rfl rfl) ?_
              rintro xv w' ⟨hx, rfl⟩
              exact ⟨(fun cv hc => hx.trans (Option.some.inj (Option.some.inj hc))), (by show Sx.Own _ _ [(true, g3, [.int .u64 ((Wd.hi m).toNat), .int .u64 ((Wd.lo m).toNat)]), (true, g2, [.int .u64 ((Wd.hi n).toNat), .int .u64 ((Wd.lo n).toNat)]), (true, g1, [.int .u64 ((Wd.hi hc).toNat), .int .u64 ((Wd.lo hc).toNat), .int .u32 k0.toNat, .int .u32 k1.toNat, .bool hb]), (true, g4, [.int .u64 ((Wd.hi n).toNat), .int .u64 ((Wd.lo n).toNat), .int .u32 k0.toNat, .int .u32 k1.toNat, .bool false]), (true, g5, [.int .u64 ((Wd.hi m).toNat), .int .u64 ((Wd.lo m).toNat), .int .u32 k0.toNat, .int .u32 k1.toNat, .bool false]), (true, g6, [.int .u64 ((Hf.word ⟨n, k0, k1, false⟩).toNat), .int .u64 ((Hf.word ⟨n, k0, k1, true⟩).toNat)]), (true, g7, [.int .u64 ((Hf.word ⟨m, k0, k1, false⟩).toNat), .int .u64 ((Hf.word ⟨m, k0, k1, true⟩).toNat)])] []; exact H)⟩
            · intro L A w up hun hd F H
              have F := Sx.Fr.to F (kv' := [(10, .pointer (some ⟨g7, 0, none⟩))]) ⟨rfl, trivial⟩
              refine Sx.step_on rfl (Sx.d_load (i := 6) (xs := [.int .u64 ((Hf.word ⟨m, k0, k1, false⟩).toNat), .int .u64 ((Hf.word ⟨m, k0, k1, true⟩).toNat)]) rw_101 F H rfl rfl rfl rfl rfl) ?_
              rintro xv w' ⟨hx, rfl⟩
              exact ⟨(fun cv hc => hx.trans (Option.some.inj (Option.some.inj hc))), (by show Sx.Own _ _ [(true, g3, [.int .u64 ((Wd.hi m).toNat), .int .u64 ((Wd.lo m).toNat)]), (true, g2, [.int .u64 ((Wd.hi n).toNat), .int .u64 ((Wd.lo n).toNat)]), (true, g1, [.int .u64 ((Wd.hi hc).toNat), .int .u64 ((Wd.lo hc).toNat), .int .u32 k0.toNat, .int .u32 k1.toNat, .bool hb]), (true, g4, [.int .u64 ((Wd.hi n).toNat), .int .u64 ((Wd.lo n).toNat), .int .u32 k0.toNat, .int .u32 k1.toNat, .bool false]), (true, g5, [.int .u64 ((Wd.hi m).toNat), .int .u64 ((Wd.lo m).toNat), .int .u32 k0.toNat, .int .u32 k1.toNat, .bool false]), (true, g6, [.int .u64 ((Hf.word ⟨n, k0, k1, false⟩).toNat), .int .u64 ((Hf.word ⟨n, k0, k1, true⟩).toNat)]), (true, g7, [.int .u64 ((Hf.word ⟨m, k0, k1, false⟩).toNat), .int .u64 ((Hf.word ⟨m, k0, k1, true⟩).toNat)])] []; exact H)⟩
            · intro L A w up hun hd F H
              have F := Sx.Fr.to F (kv' := [(44, .agg #[.int .u64 ((Hf.word ⟨n, k0, k1, false⟩).toNat), .int .u64 ((Hf.word ⟨n, k0, k1, true⟩).toNat)]), (45, .agg #[.int .u64 ((Hf.word ⟨m, k0, k1, false⟩).toNat), .int .u64 ((Hf.word ⟨m, k0, k1, true⟩).toNat)])]) ⟨rfl, rfl, trivial⟩
              refine Sx.step_on rfl (Sx.d_bin (v := .bool false) F rfl rfl rfl (Sx.i_eq2 (decide_eq_false (fun k => hne (Hf.words_inj k))))) ?_
              rintro xv w' ⟨hx, rfl⟩
              exact ⟨(fun cv hc => hx.trans (Option.some.inj (Option.some.inj hc))), (by show Sx.Own _ _ [(true, g3, [.int .u64 ((Wd.hi m).toNat), .int .u64 ((Wd.lo m).toNat)]), (true, g2, [.int .u64 ((Wd.hi n).toNat), .int .u64 ((Wd.lo n).toNat)]), (true, g1, [.int .u64 ((Wd.hi hc).toNat), .int .u64 ((Wd.lo hc).toNat), .int .u32 k0.toNat, .int .u32 k1.toNat, .bool hb]), (true, g4, [.int .u64 ((Wd.hi n).toNat), .int .u64 ((Wd.lo n).toNat), .int .u32 k0.toNat, .int .u32 k1.toNat, .bool false]), (true, g5, [.int .u64 ((Wd.hi m).toNat), .int .u64 ((Wd.lo m).toNat), .int .u32 k0.toNat, .int .u32 k1.toNat, .bool false]), (true, g6, [.int .u64 ((Hf.word ⟨n, k0, k1, false⟩).toNat), .int .u64 ((Hf.word ⟨n, k0, k1, true⟩).toNat)]), (true, g7, [.int .u64 ((Hf.word ⟨m, k0, k1, false⟩).toNat), .int .u64 ((Hf.word ⟨m, k0, k1, true⟩).toNat)])] []; exact H)⟩
            · intro L A w up hun hd F H
              have F := Sx.Fr.to F (kv' := [(4, .pointer (some ⟨g2, 0, none⟩))]) ⟨rfl, trivial⟩
              refine Sx.step_on rfl (Sx.d_load (i := 1) (xs := [.int .u64 ((Wd.hi n).toNat), .int .u64 ((Wd.lo n).toNat)]) rw_24 F H rfl rfl rfl rfl rfl) ?_
              rintro xv w' ⟨hx, rfl⟩
              exact ⟨(fun cv hc => hx.trans (Option.some.inj (Option.some.inj hc))), (by show Sx.Own _ _ [(true, g3, [.int .u64 ((Wd.hi m).toNat), .int .u64 ((Wd.lo m).toNat)]), (true, g2, [.int .u64 ((Wd.hi n).toNat), .int .u64 ((Wd.lo n).toNat)]), (true, g1, [.int .u64 ((Wd.hi hc).toNat), .int .u64 ((Wd.lo hc).toNat), .int .u32 k0.toNat, .int .u32 k1.toNat, .bool hb]), (true, g4, [.int .u64 ((Wd.hi n).toNat), .int .u64 ((Wd.lo n).toNat), .int .u32 k0.toNat, .int .u32 k1.toNat, .bool false]), (true, g5, [.int .u64 ((Wd.hi m).toNat), .int .u64 ((Wd.lo m).toNat), .int .u32 k0.toNat, .int .u32 k1.toNat, .bool false]), (true, g6, [.int .u64 ((Hf.word ⟨n, k0, k1, false⟩).toNat), .int .u64 ((Hf.word ⟨n, k0, k1, true⟩).toNat)]), (true, g7, [.int .u64 ((Hf.word ⟨m, k0, k1, false⟩).toNat), .int .u64 ((Hf.word ⟨m, k0, k1, true⟩).toNat)])] []; exact H)⟩
            · intro L A w up hun hd F H
              have F := Sx.Fr.to F (kv' := [(5, .pointer (some ⟨g3, 0, none⟩))]) ⟨rfl, trivial⟩
              refine Sx.step_on rfl (Sx.d_load (i := 0) (xs := [.int .u64 ((Wd.hi m).toNat), .int .u64 ((Wd.lo m).toNat)]) rw_24 F H rfl rfl rfl rfl rfl) ?_
              rintro xv w' ⟨hx, rfl⟩
              exact ⟨(fun cv hc => hx.trans (Option.some.inj (Option.some.inj hc))), (by show Sx.Own _ _ [(true, g3, [.int .u64 ((Wd.hi m).toNat), .int .u64 ((Wd.lo m).toNat)]), (true, g2, [.int .u64 ((Wd.hi n).toNat), .int .u64 ((Wd.lo n).toNat)]), (true, g1, [.int .u64 ((Wd.hi hc).toNat), .int .u64 ((Wd.lo hc).toNat), .int .u32 k0.toNat, .int .u32 k1.toNat, .bool hb]), (true, g4, [.int .u64 ((Wd.hi n).toNat), .int .u64 ((Wd.lo n).toNat), .int .u32 k0.toNat, .int .u32 k1.toNat, .bool false]), (true, g5, [.int .u64 ((Wd.hi m).toNat), .int .u64 ((Wd.lo m).toNat), .int .u32 k0.toNat, .int .u32 k1.toNat, .bool false]), (true, g6, [.int .u64 ((Hf.word ⟨n, k0, k1, false⟩).toNat), .int .u64 ((Hf.word ⟨n, k0, k1, true⟩).toNat)]), (true, g7, [.int .u64 ((Hf.word ⟨m, k0, k1, false⟩).toNat), .int .u64 ((Hf.word ⟨m, k0, k1, true⟩).toNat)])] []; exact H)⟩
            · intro L A w up hun hd F H
              have F := Sx.Fr.to F (kv' := [(47, .agg #[.int .u64 ((Wd.hi n).toNat), .int .u64 ((Wd.lo n).toNat)]), (48, .agg #[.int .u64 ((Wd.hi m).toNat), .int .u64 ((Wd.lo m).toNat)])]) ⟨rfl, rfl, trivial⟩
              refine Sx.step_on rfl (Sx.d_bin (v := .bool false) F rfl rfl rfl (Sx.i_eqV (eqb_ne hne))) ?_
              rintro xv w' ⟨hx, rfl⟩
              exact ⟨(fun cv hc => hx.trans (Option.some.inj (Option.some.inj hc))), (by show Sx.Own _ _ [(true, g3, [.int .u64 ((Wd.hi m).toNat), .int .u64 ((Wd.lo m).toNat)]), (true, g2, [.int .u64 ((Wd.hi n).toNat), .int .u64 ((Wd.lo n).toNat)]), (true, g1, [.int .u64 ((Wd.hi hc).toNat), .int .u64 ((Wd.lo hc).toNat), .int .u32 k0.toNat, .int .u32 k1.toNat, .bool hb]), (true, g4, [.int .u64 ((Wd.hi n).toNat), .int .u64 ((Wd.lo n).toNat), .int .u32 k0.toNat, .int .u32 k1.toNat, .bool false]), (true, g5, [.int .u64 ((Wd.hi m).toNat), .int .u64 ((Wd.lo m).toNat), .int .u32 k0.toNat, .int .u32 k1.toNat, .bool false]), (true, g6, [.int .u64 ((Hf.word ⟨n, k0, k1, false⟩).toNat), .int .u64 ((Hf.word ⟨n, k0, k1, true⟩).toNat)]), (true, g7, [.int .u64 ((Hf.word ⟨m, k0, k1, false⟩).toNat), .int .u64 ((Hf.word ⟨m, k0, k1, true⟩).toNat)])] []; exact H)⟩
            · intro L A w up hun hd F H
              have F := Sx.Fr.to F (kv' := [(46, .bool false), (49, .bool false)]) ⟨rfl, rfl, trivial⟩
              refine Sx.step_on rfl (Sx.d_bin (v := .bool true) F rfl rfl rfl (Sx.b_eq (by simp))) ?_
              rintro xv w' ⟨hx, rfl⟩
              exact ⟨(fun cv hc => hx.trans (Option.some.inj (Option.some.inj hc))), (by show Sx.Own _ _ [(true, g3, [.int .u64 ((Wd.hi m).toNat), .int .u64 ((Wd.lo m).toNat)]), (true, g2, [.int .u64 ((Wd.hi n).toNat), .int .u64 ((Wd.lo n).toNat)]), (true, g1, [.int .u64 ((Wd.hi hc).toNat), .int .u64 ((Wd.lo hc).toNat), .int .u32 k0.toNat, .int .u32 k1.toNat, .bool hb]), (true, g4, [.int .u64 ((Wd.hi n).toNat), .int .u64 ((Wd.lo n).toNat), .int .u32 k0.toNat, .int .u32 k1.toNat, .bool false]), (true, g5, [.int .u64 ((Wd.hi m).toNat), .int .u64 ((Wd.lo m).toNat), .int .u32 k0.toNat, .int .u32 k1.toNat, .bool false]), (true, g6, [.int .u64 ((Hf.word ⟨n, k0, k1, false⟩).toNat), .int .u64 ((Hf.word ⟨n, k0, k1, true⟩).toNat)]), (true, g7, [.int .u64 ((Hf.word ⟨m, k0, k1, false⟩).toNat), .int .u64 ((Hf.word ⟨m, k0, k1, true⟩).toNat)])] []; exact H)⟩
            · intro L A w up hun hd F H
              have F := Sx.Fr.to F (kv' := [(50, .bool true)]) ⟨rfl, trivial⟩
              refine Sx.step_on rfl (Sx.d_move F (Or.inr rfl) rfl) ?_
              rintro xv w' ⟨hx, rfl⟩
              exact ⟨(fun cv hc => hx.trans (Option.some.inj (Option.some.inj hc))), (by show Sx.Own _ _ [(true, g3, [.int .u64 ((Wd.hi m).toNat), .int .u64 ((Wd.lo m).toNat)]), (true, g2, [.int .u64 ((Wd.hi n).toNat), .int .u64 ((Wd.lo n).toNat)]), (true, g1, [.int .u64 ((Wd.hi hc).toNat), .int .u64 ((Wd.lo hc).toNat), .int .u32 k0.toNat, .int .u32 k1.toNat, .bool hb]), (true, g4, [.int .u64 ((Wd.hi n).toNat), .int .u64 ((Wd.lo n).toNat), .int .u32 k0.toNat, .int .u32 k1.toNat, .bool false]), (true, g5, [.int .u64 ((Wd.hi m).toNat), .int .u64 ((Wd.lo m).toNat), .int .u32 k0.toNat, .int .u32 k1.toNat, .bool false]), (true, g6, [.int .u64 ((Hf.word ⟨n, k0, k1, false⟩).toNat), .int .u64 ((Hf.word ⟨n, k0, k1, true⟩).toNat)]), (true, g7, [.int .u64 ((Hf.word ⟨m, k0, k1, false⟩).toNat), .int .u64 ((Hf.word ⟨m, k0, k1, true⟩).toNat)])] []; exact H)⟩
          · intro L A w hL F H
            have F := Sx.Fr.to F (kv' := [(0, .agg #[.int .u64 ((Wd.hi hc).toNat), .int .u64 ((Wd.lo hc).toNat), .int .u32 k0.toNat, .int .u32 k1.toNat, .bool hb]), (1, .agg #[.int .u64 ((Wd.hi n).toNat), .int .u64 ((Wd.lo n).toNat)]), (2, .agg #[.int .u64 ((Wd.hi m).toNat), .int .u64 ((Wd.lo m).toNat)]), (3, .pointer (some ⟨g1, 0, none⟩)), (4, .pointer (some ⟨g2, 0, none⟩)), (5, .pointer (some ⟨g3, 0, none⟩)), (11, .bool true), (12, .bool false), (23, .bool false), (7, .pointer (some ⟨g4, 0, none⟩)), (8, .pointer (some ⟨g5, 0, none⟩)), (9, .pointer (some ⟨g6, 0, none⟩)), (10, .pointer (some ⟨g7, 0, none⟩)), (6, .bool true)]) ⟨rfl, rfl, rfl, rfl, rfl, rfl, rfl, rfl, rfl, rfl, rfl, rfl, rfl, rfl, trivial⟩
            refine hK9 _ _ ?_
            refine wp_ret ?_
            try dsimp only [Exit.then, Exit.inBlock, Exit.jump]
            refine Sx.ret1 F Try.results14 (Sx.res_tmp (v := .bool true) F rfl) ⟨?_, H.below⟩
            rfl
set_option maxRecDepth 100000 in
theorem halfApart_eq (hc n : BitVec 128) (k0 k1 : BitVec 32) (hb : Bool) (w0 : World) : Calls Try.prog 14 #[.agg #[.int .u64 ((Wd.hi hc).toNat), .int .u64 ((Wd.lo hc).toNat), .int .u32 k0.toNat, .int .u32 k1.toNat, .bool hb], .agg #[.int .u64 ((Wd.hi n).toNat), .int .u64 ((Wd.lo n).toNat)], .agg #[.int .u64 ((Wd.hi n).toNat), .int .u64 ((Wd.lo n).toNat)]] w0 fun e w' => e = .returned (.bool true) ∧ Below w0.heap.size w0 w' := by
  refine Sx.enter (args := [.agg #[.int .u64 ((Wd.hi hc).toNat), .int .u64 ((Wd.lo hc).toNat), .int .u32 k0.toNat, .int .u32 k1.toNat, .bool hb], .agg #[.int .u64 ((Wd.hi n).toNat), .int .u64 ((Wd.lo n).toNat)], .agg #[.int .u64 ((Wd.hi n).toNat), .int .u64 ((Wd.lo n).toNat)]]) Try.func14 rfl Try.ntmps14 (Nat.le_of_ble_eq_true rfl) (fun A F => ?_)
  have H := Sx.Own.start w0
  refine Sx.seq (fun K1 hK1 => ?_)
  refine Sx.plain ?_
  refine Sx.sb F (Sx.d_box F H rfl rfl [.int .u64 ((Wd.hi hc).toNat), .int .u64 ((Wd.lo hc).toNat), .int .u32 k0.toNat, .int .u32 k1.toNat, .bool hb] rfl) (Sx.wanted_none rfl _) rfl (by decide) (fun g1 A w F H => ?_)
  refine Sx.sb F (Sx.d_box F H rfl rfl [.int .u64 ((Wd.hi n).toNat), .int .u64 ((Wd.lo n).toNat)] rfl) (Sx.wanted_none rfl _) rfl (by decide) (fun g2 A w F H => ?_)
  refine Sx.sb F (Sx.d_box F H rfl rfl [.int .u64 ((Wd.hi n).toNat), .int .u64 ((Wd.lo n).toNat)] rfl) (Sx.wanted_none rfl _) rfl (by decide) (fun g3 A w F H => ?_)
  refine Sx.sv F (Sx.d_move F (Or.inr rfl) rfl) (Sx.wanted_none rfl _) rfl (by decide) (fun A F => ?_)
  refine Sx.nil ?_
  refine hK1 _ _ ?_
  refine Sx.seq (fun K2 hK2 => ?_)
  refine Sx.seq (fun K3 hK3 => ?_)
  refine Sx.plain ?_
  refine Sx.sw F (Sx.d_call (vs := []) (v := .bool true) if_45 F H rfl rfl (awake12_c _)) (Sx.wanted_none rfl _) rfl (by decide) (fun A w F H => ?_)
  refine Sx.sv F (Sx.d_un (v := .bool false) F rfl rfl rfl) (Sx.wanted_none rfl _) rfl (by decide) (fun A F => ?_)
  refine Sx.nil ?_
  refine hK3 _ _ ?_
  refine Sx.condF F rfl ?_
  refine wp_skip ?_
  refine hK2 _ _ ?_
  refine Sx.seq (fun K4 hK4 => ?_)
  refine Sx.seq (fun K5 hK5 => ?_)
  have F := Sx.Fr.to F (kv' := [(0, .agg #[.int .u64 ((Wd.hi hc).toNat), .int .u64 ((Wd.lo hc).toNat), .int .u32 k0.toNat, .int .u32 k1.toNat, .bool hb]), (1, .agg #[.int .u64 ((Wd.hi n).toNat), .int .u64 ((Wd.lo n).toNat)]), (2, .agg #[.int .u64 ((Wd.hi n).toNat), .int .u64 ((Wd.lo n).toNat)]), (3, .pointer (some ⟨g1, 0, none⟩)), (4, .pointer (some ⟨g2, 0, none⟩)), (5, .pointer (some ⟨g3, 0, none⟩)), (6, .bool false), (11, .bool true), (12, .bool false)]) ⟨rfl, rfl, rfl, rfl, rfl, rfl, rfl, rfl, rfl, trivial⟩
  refine Sx.drawn F (by kernel_rfl) (by kernel_rfl) (by kernel_rfl) [some (.agg #[.int .u64 ((Wd.hi hc).toNat), .int .u64 ((Wd.lo hc).toNat), .int .u32 k0.toNat, .int .u32 k1.toNat, .bool hb]), some (.agg #[.int .u64 ((Wd.hi n).toNat), .int .u64 ((Wd.lo n).toNat)]), some (.agg #[.int .u64 ((Wd.hi ((Hf.jump ⟨hc, k0, k1, hb⟩ n).c)).toNat), .int .u64 ((Wd.lo ((Hf.jump ⟨hc, k0, k1, hb⟩ n).c)).toNat), .int .u32 (((Hf.jump ⟨hc, k0, k1, hb⟩ n).k0).toNat), .int .u32 (((Hf.jump ⟨hc, k0, k1, hb⟩ n).k1).toNat), .bool ((Hf.jump ⟨hc, k0, k1, hb⟩ n).b)]), some (.agg #[.int .u64 ((Wd.hi hc).toNat), .int .u64 ((Wd.lo hc).toNat), .int .u32 k0.toNat, .int .u32 k1.toNat, .bool hb]), some (.agg #[.int .u64 ((Wd.hi n).toNat), .int .u64 ((Wd.lo n).toNat)]), some (.agg #[.int .u64 ((Wd.hi ((Hf.jump ⟨hc, k0, k1, hb⟩ n).c)).toNat), .int .u64 ((Wd.lo ((Hf.jump ⟨hc, k0, k1, hb⟩ n).c)).toNat), .int .u32 (((Hf.jump ⟨hc, k0, k1, hb⟩ n).k0).toNat), .int .u32 (((Hf.jump ⟨hc, k0, k1, hb⟩ n).k1).toNat), .bool ((Hf.jump ⟨hc, k0, k1, hb⟩ n).b)]), some (.bool true), some (.agg #[.int .u64 ((Wd.hi n).toNat), .int .u64 ((Wd.lo n).toNat)]), some (.agg #[.int .u64 ((Wd.hi n).toNat), .int .u64 ((Wd.lo n).toNat)]), some (.bool true), some (.bool false)] (fun L A w => Sx.Own w0 w [(true, g3, [.int .u64 ((Wd.hi n).toNat), .int .u64 ((Wd.lo n).toNat)]), (true, g2, [.int .u64 ((Wd.hi n).toNat), .int .u64 ((Wd.lo n).toNat)]), (true, g1, [.int .u64 ((Wd.hi hc).toNat), .int .u64 ((Wd.lo hc).toNat), .int .u32 k0.toNat, .int .u32 k1.toNat, .bool hb])] []) H.drew ?_ ?_
  · refine ⟨?_, ?_, ?_, ?_, ?_, ?_, ?_, ?_, ?_, ?_, ?_, trivial⟩
    · intro L A w up hun hd F H
      have F := Sx.Fr.to F (kv' := [(3, .pointer (some ⟨g1, 0, none⟩))]) ⟨rfl, trivial⟩
      refine Sx.step_on rfl (Sx.d_load (i := 2) (xs := [.int .u64 ((Wd.hi hc).toNat), .int .u64 ((Wd.lo hc).toNat), .int .u32 k0.toNat, .int .u32 k1.toNat, .bool hb]) rw_82 F H rfl rfl rfl rfl rfl) ?_
      rintro xv w' ⟨hx, rfl⟩
      exact ⟨(fun cv hc => hx.trans (Option.some.inj (Option.some.inj hc))), (by show Sx.Own _ _ [(true, g3, [.int .u64 ((Wd.hi n).toNat), .int .u64 ((Wd.lo n).toNat)]), (true, g2, [.int .u64 ((Wd.hi n).toNat), .int .u64 ((Wd.lo n).toNat)]), (true, g1, [.int .u64 ((Wd.hi hc).toNat), .int .u64 ((Wd.lo hc).toNat), .int .u32 k0.toNat, .int .u32 k1.toNat, .bool hb])] []; exact H)⟩
    · intro L A w up hun hd F H
      have F := Sx.Fr.to F (kv' := [(4, .pointer (some ⟨g2, 0, none⟩))]) ⟨rfl, trivial⟩
      refine Sx.step_on rfl (Sx.d_load (i := 1) (xs := [.int .u64 ((Wd.hi n).toNat), .int .u64 ((Wd.lo n).toNat)]) rw_24 F H rfl rfl rfl rfl rfl) ?_
      rintro xv w' ⟨hx, rfl⟩
      exact ⟨(fun cv hc => hx.trans (Option.some.inj (Option.some.inj hc))), (by show Sx.Own _ _ [(true, g3, [.int .u64 ((Wd.hi n).toNat), .int .u64 ((Wd.lo n).toNat)]), (true, g2, [.int .u64 ((Wd.hi n).toNat), .int .u64 ((Wd.lo n).toNat)]), (true, g1, [.int .u64 ((Wd.hi hc).toNat), .int .u64 ((Wd.lo hc).toNat), .int .u32 k0.toNat, .int .u32 k1.toNat, .bool hb])] []; exact H)⟩
    · intro L A w up hun hd F H
      have F := Sx.Fr.to F (kv' := [(13, .agg #[.int .u64 ((Wd.hi hc).toNat), .int .u64 ((Wd.lo hc).toNat), .int .u32 k0.toNat, .int .u32 k1.toNat, .bool hb]), (14, .agg #[.int .u64 ((Wd.hi n).toNat), .int .u64 ((Wd.lo n).toNat)])]) ⟨rfl, rfl, trivial⟩
      refine Sx.step_on rfl (Sx.d_call (vs := [.agg #[.int .u64 ((Wd.hi hc).toNat), .int .u64 ((Wd.lo hc).toNat), .int .u32 k0.toNat, .int .u32 k1.toNat, .bool hb], .agg #[.int .u64 ((Wd.hi n).toNat), .int .u64 ((Wd.lo n).toNat)]]) (v := .agg #[.int .u64 ((Wd.hi ((Hf.jump ⟨hc, k0, k1, hb⟩ n).c)).toNat), .int .u64 ((Wd.lo ((Hf.jump ⟨hc, k0, k1, hb⟩ n).c)).toNat), .int .u32 (((Hf.jump ⟨hc, k0, k1, hb⟩ n).k0).toNat), .int .u32 (((Hf.jump ⟨hc, k0, k1, hb⟩ n).k1).toNat), .bool ((Hf.jump ⟨hc, k0, k1, hb⟩ n).b)]) if_52 F H rfl rfl (hjump_c hc k0 k1 hb n _)) ?_
      rintro xv w' ⟨hx, H⟩
      exact ⟨(fun cv hc => hx.trans (Option.some.inj (Option.some.inj hc))), (by show Sx.Own _ _ [(true, g3, [.int .u64 ((Wd.hi n).toNat), .int .u64 ((Wd.lo n).toNat)]), (true, g2, [.int .u64 ((Wd.hi n).toNat), .int .u64 ((Wd.lo n).toNat)]), (true, g1, [.int .u64 ((Wd.hi hc).toNat), .int .u64 ((Wd.lo hc).toNat), .int .u32 k0.toNat, .int .u32 k1.toNat, .bool hb])] []; exact H)⟩
    · intro L A w up hun hd F H
      have F := Sx.Fr.to F (kv' := [(3, .pointer (some ⟨g1, 0, none⟩))]) ⟨rfl, trivial⟩
      refine Sx.step_on rfl (Sx.d_load (i := 2) (xs := [.int .u64 ((Wd.hi hc).toNat), .int .u64 ((Wd.lo hc).toNat), .int .u32 k0.toNat, .int .u32 k1.toNat, .bool hb]) rw_82 F H rfl rfl rfl rfl rfl) ?_
      rintro xv w' ⟨hx, rfl⟩
      exact ⟨(fun cv hc => hx.trans (Option.some.inj (Option.some.inj hc))), (by show Sx.Own _ _ [(true, g3, [.int .u64 ((Wd.hi n).toNat), .int .u64 ((Wd.lo n).toNat)]), (true, g2, [.int .u64 ((Wd.hi n).toNat), .int .u64 ((Wd.lo n).toNat)]), (true, g1, [.int .u64 ((Wd.hi hc).toNat), .int .u64 ((Wd.lo hc).toNat), .int .u32 k0.toNat, .int .u32 k1.toNat, .bool hb])] []; exact H)⟩
    · intro L A w up hun hd F H
      have F := Sx.Fr.to F (kv' := [(5, .pointer (some ⟨g3, 0, none⟩))]) ⟨rfl, trivial⟩
      refine Sx.step_on rfl (Sx.d_load (i := 0) (xs := [.int .u64 ((Wd.hi n).toNat), .int .u64 ((Wd.lo n).toNat)]) rw_24 F H rfl rfl rfl rfl rfl) ?_
      rintro xv w' ⟨hx, rfl⟩
      exact ⟨(fun cv hc => hx.trans (Option.some.inj (Option.some.inj hc))), (by show Sx.Own _ _ [(true, g3, [.int .u64 ((Wd.hi n).toNat), .int .u64 ((Wd.lo n).toNat)]), (true, g2, [.int .u64 ((Wd.hi n).toNat), .int .u64 ((Wd.lo n).toNat)]), (true, g1, [.int .u64 ((Wd.hi hc).toNat), .int .u64 ((Wd.lo hc).toNat), .int .u32 k0.toNat, .int .u32 k1.toNat, .bool hb])] []; exact H)⟩
    · intro L A w up hun hd F H
      have F := Sx.Fr.to F (kv' := [(16, .agg #[.int .u64 ((Wd.hi hc).toNat), .int .u64 ((Wd.lo hc).toNat), .int .u32 k0.toNat, .int .u32 k1.toNat, .bool hb]), (17, .agg #[.int .u64 ((Wd.hi n).toNat), .int .u64 ((Wd.lo n).toNat)])]) ⟨rfl, rfl, trivial⟩
      refine Sx.step_on rfl (Sx.d_call (vs := [.agg #[.int .u64 ((Wd.hi hc).toNat), .int .u64 ((Wd.lo hc).toNat), .int .u32 k0.toNat, .int .u32 k1.toNat, .bool hb], .agg #[.int .u64 ((Wd.hi n).toNat), .int .u64 ((Wd.lo n).toNat)]]) (v := .agg #[.int .u64 ((Wd.hi ((Hf.jump ⟨hc, k0, k1, hb⟩ n).c)).toNat), .int .u64 ((Wd.lo ((Hf.jump ⟨hc, k0, k1, hb⟩ n).c)).toNat), .int .u32 (((Hf.jump ⟨hc, k0, k1, hb⟩ n).k0).toNat), .int .u32 (((Hf.jump ⟨hc, k0, k1, hb⟩ n).k1).toNat), .bool ((Hf.jump ⟨hc, k0, k1, hb⟩ n).b)]) if_52 F H rfl rfl (hjump_c hc k0 k1 hb n _)) ?_
      rintro xv w' ⟨hx, H⟩
      exact ⟨(fun cv hc => hx.trans (Option.some.inj (Option.some.inj hc))), (by show Sx.Own _ _ [(true, g3, [.int .u64 ((Wd.hi n).toNat), .int .u64 ((Wd.lo n).toNat)]), (true, g2, [.int .u64 ((Wd.hi n).toNat), .int .u64 ((Wd.lo n).toNat)]), (true, g1, [.int .u64 ((Wd.hi hc).toNat), .int .u64 ((Wd.lo hc).toNat), .int .u32 k0.toNat, .int .u32 k1.toNat, .bool hb])] []; exact H)⟩
    · intro L A w up hun hd F H
      have F := Sx.Fr.to F (kv' := [(15, .agg #[.int .u64 ((Wd.hi ((Hf.jump ⟨hc, k0, k1, hb⟩ n).c)).toNat), .int .u64 ((Wd.lo ((Hf.jump ⟨hc, k0, k1, hb⟩ n).c)).toNat), .int .u32 (((Hf.jump ⟨hc, k0, k1, hb⟩ n).k0).toNat), .int .u32 (((Hf.jump ⟨hc, k0, k1, hb⟩ n).k1).toNat), .bool ((Hf.jump ⟨hc, k0, k1, hb⟩ n).b)]), (18, .agg #[.int .u64 ((Wd.hi ((Hf.jump ⟨hc, k0, k1, hb⟩ n).c)).toNat), .int .u64 ((Wd.lo ((Hf.jump ⟨hc, k0, k1, hb⟩ n).c)).toNat), .int .u32 (((Hf.jump ⟨hc, k0, k1, hb⟩ n).k0).toNat), .int .u32 (((Hf.jump ⟨hc, k0, k1, hb⟩ n).k1).toNat), .bool ((Hf.jump ⟨hc, k0, k1, hb⟩ n).b)])]) ⟨rfl, rfl, trivial⟩
      refine Sx.step_on rfl (Sx.d_bin (v := .bool true) F rfl rfl rfl (Sx.i_eqH (decide_eq_true ⟨rfl, rfl, rfl, rfl⟩))) ?_
      rintro xv w' ⟨hx, rfl⟩
      exact ⟨(fun cv hc => hx.trans (Option.some.inj (Option.some.inj hc))), (by show Sx.Own _ _ [(true, g3, [.int .u64 ((Wd.hi n).toNat), .int .u64 ((Wd.lo n).toNat)]), (true, g2, [.int .u64 ((Wd.hi n).toNat), .int .u64 ((Wd.lo n).toNat)]), (true, g1, [.int .u64 ((Wd.hi hc).toNat), .int .u64 ((Wd.lo hc).toNat), .int .u32 k0.toNat, .int .u32 k1.toNat, .bool hb])] []; exact H)⟩
    · intro L A w up hun hd F H
      have F := Sx.Fr.to F (kv' := [(4, .pointer (some ⟨g2, 0, none⟩))]) ⟨rfl, trivial⟩
      refine Sx.step_on rfl (Sx.d_load (i := 1) (xs := [.int .u64 ((Wd.hi n).toNat), .int .u64 ((Wd.lo n).toNat)]) rw_24 F H rfl rfl rfl rfl rfl) ?_
      rintro xv w' ⟨hx, rfl⟩
      exact ⟨(fun cv hc => hx.trans (Option.some.inj (Option.some.inj hc))), (by show Sx.Own _ _ [(true, g3, [.int .u64 ((Wd.hi n).toNat), .int .u64 ((Wd.lo n).toNat)]), (true, g2, [.int .u64 ((Wd.hi n).toNat), .int .u64 ((Wd.lo n).toNat)]), (true, g1, [.int .u64 ((Wd.hi hc).toNat), .int .u64 ((Wd.lo hc).toNat), .int .u32 k0.toNat, .int .u32 k1.toNat, .bool hb])] []; exact H)⟩
    · intro L A w up hun hd F H
      have F := Sx.Fr.to F (kv' := [(5, .pointer (some ⟨g3, 0, none⟩))]) ⟨rfl, trivial⟩
      refine Sx.step_on rfl (Sx.d_load (i := 0) (xs := [.int .u64 ((Wd.hi n).toNat), .int .u64 ((Wd.lo n).toNat)]) rw_24 F H rfl rfl rfl rfl rfl) ?_
      rintro xv w' ⟨hx, rfl⟩
      exact ⟨(fun cv hc => hx.trans (Option.some.inj (Option.some.inj hc))), (by show Sx.Own _ _ [(true, g3, [.int .u64 ((Wd.hi n).toNat), .int .u64 ((Wd.lo n).toNat)]), (true, g2, [.int .u64 ((Wd.hi n).toNat), .int .u64 ((Wd.lo n).toNat)]), (true, g1, [.int .u64 ((Wd.hi hc).toNat), .int .u64 ((Wd.lo hc).toNat), .int .u32 k0.toNat, .int .u32 k1.toNat, .bool hb])] []; exact H)⟩
    · intro L A w up hun hd F H
      have F := Sx.Fr.to F (kv' := [(20, .agg #[.int .u64 ((Wd.hi n).toNat), .int .u64 ((Wd.lo n).toNat)]), (21, .agg #[.int .u64 ((Wd.hi n).toNat), .int .u64 ((Wd.lo n).toNat)])]) ⟨rfl, rfl, trivial⟩
      refine Sx.step_on rfl (Sx.d_bin (v := .bool true) F rfl rfl rfl (Sx.i_eqV (eqb_self _))) ?_
      rintro xv w' ⟨hx, rfl⟩
      exact ⟨(fun cv hc => hx.trans (Option.some.inj (Option.some.inj hc))), (by show Sx.Own _ _ [(true, g3, [.int .u64 ((Wd.hi n).toNat), .int .u64 ((Wd.lo n).toNat)]), (true, g2, [.int .u64 ((Wd.hi n).toNat), .int .u64 ((Wd.lo n).toNat)]), (true, g1, [.int .u64 ((Wd.hi hc).toNat), .int .u64 ((Wd.lo hc).toNat), .int .u32 k0.toNat, .int .u32 k1.toNat, .bool hb])] []; exact H)⟩
    · intro L A w up hun hd F H
      have F := Sx.Fr.to F (kv' := [(19, .bool true), (22, .bool true)]) ⟨rfl, rfl, trivial⟩
      refine Sx.step_on rfl (Sx.d_bin (v := .bool false) F rfl rfl rfl (Sx.b_ne (by simp))) ?_
      rintro xv w' ⟨hx, rfl⟩
      exact ⟨(fun cv hc => hx.trans (Option.some.inj (Option.some.inj hc))), (by show Sx.Own _ _ [(true, g3, [.int .u64 ((Wd.hi n).toNat), .int .u64 ((Wd.lo n).toNat)]), (true, g2, [.int .u64 ((Wd.hi n).toNat), .int .u64 ((Wd.lo n).toNat)]), (true, g1, [.int .u64 ((Wd.hi hc).toNat), .int .u64 ((Wd.lo hc).toNat), .int .u32 k0.toNat, .int .u32 k1.toNat, .bool hb])] []; exact H)⟩
  · intro L A w hL F H
    have F := Sx.Fr.to F (kv' := [(0, .agg #[.int .u64 ((Wd.hi hc).toNat), .int .u64 ((Wd.lo hc).toNat), .int .u32 k0.toNat, .int .u32 k1.toNat, .bool hb]), (1, .agg #[.int .u64 ((Wd.hi n).toNat), .int .u64 ((Wd.lo n).toNat)]), (2, .agg #[.int .u64 ((Wd.hi n).toNat), .int .u64 ((Wd.lo n).toNat)]), (3, .pointer (some ⟨g1, 0, none⟩)), (4, .pointer (some ⟨g2, 0, none⟩)), (5, .pointer (some ⟨g3, 0, none⟩)), (6, .bool false), (11, .bool true), (12, .bool false), (23, .bool false)]) ⟨rfl, rfl, rfl, rfl, rfl, rfl, rfl, rfl, rfl, rfl, trivial⟩
    refine hK5 _ _ ?_
    refine Sx.condF F rfl ?_
    refine wp_skip ?_
    refine hK4 _ _ ?_
    refine Sx.seq (fun K6 hK6 => ?_)
    have F := Sx.Fr.to F (kv' := [(0, .agg #[.int .u64 ((Wd.hi hc).toNat), .int .u64 ((Wd.lo hc).toNat), .int .u32 k0.toNat, .int .u32 k1.toNat, .bool hb]), (1, .agg #[.int .u64 ((Wd.hi n).toNat), .int .u64 ((Wd.lo n).toNat)]), (2, .agg #[.int .u64 ((Wd.hi n).toNat), .int .u64 ((Wd.lo n).toNat)]), (3, .pointer (some ⟨g1, 0, none⟩)), (4, .pointer (some ⟨g2, 0, none⟩)), (5, .pointer (some ⟨g3, 0, none⟩)), (6, .bool false), (11, .bool true), (12, .bool false), (23, .bool false)]) ⟨rfl, rfl, rfl, rfl, rfl, rfl, rfl, rfl, rfl, rfl, trivial⟩
    refine Sx.drawn F (by kernel_rfl) (by kernel_rfl) (by kernel_rfl) [some (.agg #[.int .u64 ((Wd.hi n).toNat), .int .u64 ((Wd.lo n).toNat)]), some (.pointer (some ⟨g1, 2, none⟩)), some (.agg #[.int .u32 k0.toNat, .int .u32 k1.toNat]), some (.agg #[.int .u64 ((Wd.hi n).toNat), .int .u64 ((Wd.lo n).toNat), .int .u32 k0.toNat, .int .u32 k1.toNat, .bool false]), some (.agg #[.int .u64 ((Wd.hi n).toNat), .int .u64 ((Wd.lo n).toNat)]), some (.pointer (some ⟨g1, 2, none⟩)), some (.agg #[.int .u32 k0.toNat, .int .u32 k1.toNat]), some (.agg #[.int .u64 ((Wd.hi n).toNat), .int .u64 ((Wd.lo n).toNat), .int .u32 k0.toNat, .int .u32 k1.toNat, .bool false]), none, none, none, none] (fun L A w => ∃ g4 : Nat, ∃ g5 : Nat, (L 8 = true → A.eval (.tmp 7) = .pointer (some ⟨g4, 0, none⟩)) ∧ (L 9 = true → A.eval (.tmp 8) = .pointer (some ⟨g5, 0, none⟩)) ∧ Sx.Own w0 w [(true, g3, [.int .u64 ((Wd.hi n).toNat), .int .u64 ((Wd.lo n).toNat)]), (true, g2, [.int .u64 ((Wd.hi n).toNat), .int .u64 ((Wd.lo n).toNat)]), (true, g1, [.int .u64 ((Wd.hi hc).toNat), .int .u64 ((Wd.lo hc).toNat), .int .u32 k0.toNat, .int .u32 k1.toNat, .bool hb]), (L 8, g4, (cond (L 10) [.int .u64 ((Wd.hi n).toNat), .int .u64 ((Wd.lo n).toNat), .int .u32 k0.toNat, .int .u32 k1.toNat, .bool false] [.int .u64 ((Wd.hi 0#128).toNat), .int .u64 ((Wd.lo 0#128).toNat), .int .u32 0, .int .u32 0, .bool false])), (L 9, g5, (cond (L 11) [.int .u64 ((Wd.hi n).toNat), .int .u64 ((Wd.lo n).toNat), .int .u32 k0.toNat, .int .u32 k1.toNat, .bool false] [.int .u64 ((Wd.hi 0#128).toNat), .int .u64 ((Wd.lo 0#128).toNat), .int .u32 0, .int .u32 0, .bool false]))] []) ⟨0, 0, (fun h => by cases h), (fun h => by cases h), H.drew.pad [(false, 0, [.int .u64 ((Wd.hi 0#128).toNat), .int .u64 ((Wd.lo 0#128).toNat), .int .u32 0, .int .u32 0, .bool false]), (false, 0, [.int .u64 ((Wd.hi 0#128).toNat), .int .u64 ((Wd.lo 0#128).toNat), .int .u32 0, .int .u32 0, .bool false])] rfl [] rfl⟩ ?_ ?_
    · refine ⟨?_, ?_, ?_, ?_, ?_, ?_, ?_, ?_, ?_, ?_, ?_, ?_, trivial⟩
      · intro L A w up hun hd F ⟨g4, g5, p8, p9, H⟩
        have f10 : L 10 = false := up 10 0 rfl hun
        have f11 : L 11 = false := up 11 0 rfl hun
        rw [f10, f11] at H
        have F := Sx.Fr.to F (kv' := [(4, .pointer (some ⟨g2, 0, none⟩))]) ⟨rfl, trivial⟩
        refine Sx.step_on rfl (Sx.d_load (i := 1) (xs := [.int .u64 ((Wd.hi n).toNat), .int .u64 ((Wd.lo n).toNat)]) rw_24 F H rfl rfl rfl rfl rfl) ?_
        rintro xv w' ⟨hx, rfl⟩
        exact ⟨(fun cv hc => hx.trans (Option.some.inj (Option.some.inj hc))), ⟨g4, g5, (fun h => (Sx.put_ne rfl _).trans (p8 h)), (fun h => (Sx.put_ne rfl _).trans (p9 h)), (by show Sx.Own _ _ [(true, g3, [.int .u64 ((Wd.hi n).toNat), .int .u64 ((Wd.lo n).toNat)]), (true, g2, [.int .u64 ((Wd.hi n).toNat), .int .u64 ((Wd.lo n).toNat)]), (true, g1, [.int .u64 ((Wd.hi hc).toNat), .int .u64 ((Wd.lo hc).toNat), .int .u32 k0.toNat, .int .u32 k1.toNat, .bool hb]), (L 8, g4, (cond (L 10) [.int .u64 ((Wd.hi n).toNat), .int .u64 ((Wd.lo n).toNat), .int .u32 k0.toNat, .int .u32 k1.toNat, .bool false] [.int .u64 ((Wd.hi 0#128).toNat), .int .u64 ((Wd.lo 0#128).toNat), .int .u32 0, .int .u32 0, .bool false])), (L 9, g5, (cond (L 11) [.int .u64 ((Wd.hi n).toNat), .int .u64 ((Wd.lo n).toNat), .int .u32 k0.toNat, .int .u32 k1.toNat, .bool false] [.int .u64 ((Wd.hi 0#128).toNat), .int .u64 ((Wd.lo 0#128).toNat), .int .u32 0, .int .u32 0, .bool false]))] []; rw [f10, f11]; exact H)⟩⟩
      · intro L A w up hun hd F ⟨g4, g5, p8, p9, H⟩
        have f10 : L 10 = false := up 10 1 rfl hun
        have f11 : L 11 = false := up 11 1 rfl hun
        rw [f10, f11] at H
        have F := Sx.Fr.to F (kv' := [(3, .pointer (some ⟨g1, 0, none⟩))]) ⟨rfl, trivial⟩
        refine Sx.step_on rfl (Sx.d_faddr (v := .pointer (some ⟨g1, 2, none⟩)) F rfl rfl (fa_82_1 _ 0 _)) ?_
        rintro xv w' ⟨hx, rfl⟩
        exact ⟨(fun cv hc => hx.trans (Option.some.inj (Option.some.inj hc))), ⟨g4, g5, (fun h => (Sx.put_ne rfl _).trans (p8 h)), (fun h => (Sx.put_ne rfl _).trans (p9 h)), (by show Sx.Own _ _ [(true, g3, [.int .u64 ((Wd.hi n).toNat), .int .u64 ((Wd.lo n).toNat)]), (true, g2, [.int .u64 ((Wd.hi n).toNat), .int .u64 ((Wd.lo n).toNat)]), (true, g1, [.int .u64 ((Wd.hi hc).toNat), .int .u64 ((Wd.lo hc).toNat), .int .u32 k0.toNat, .int .u32 k1.toNat, .bool hb]), (L 8, g4, (cond (L 10) [.int .u64 ((Wd.hi n).toNat), .int .u64 ((Wd.lo n).toNat), .int .u32 k0.toNat, .int .u32 k1.toNat, .bool false] [.int .u64 ((Wd.hi 0#128).toNat), .int .u64 ((Wd.lo 0#128).toNat), .int .u32 0, .int .u32 0, .bool false])), (L 9, g5, (cond (L 11) [.int .u64 ((Wd.hi n).toNat), .int .u64 ((Wd.lo n).toNat), .int .u32 k0.toNat, .int .u32 k1.toNat, .bool false] [.int .u64 ((Wd.hi 0#128).toNat), .int .u64 ((Wd.lo 0#128).toNat), .int .u32 0, .int .u32 0, .bool false]))] []; rw [f10, f11]; exact H)⟩⟩
      · intro L A w up hun hd F ⟨g4, g5, p8, p9, H⟩
        have f10 : L 10 = false := up 10 2 rfl hun
        have f11 : L 11 = false := up 11 2 rfl hun
        rw [f10, f11] at H
        have F := Sx.Fr.to F (kv' := [(25, .pointer (some ⟨g1, 2, none⟩))]) ⟨rfl, trivial⟩
        refine Sx.step_on rfl (Sx.d_load (i := 2) (xs := [.int .u32 k0.toNat, .int .u32 k1.toNat]) rw_80 F H rfl rfl rfl rfl rfl) ?_
        rintro xv w' ⟨hx, rfl⟩
        exact ⟨(fun cv hc => hx.trans (Option.some.inj (Option.some.inj hc))), ⟨g4, g5, (fun h => (Sx.put_ne rfl _).trans (p8 h)), (fun h => (Sx.put_ne rfl _).trans (p9 h)), (by show Sx.Own _ _ [(true, g3, [.int .u64 ((Wd.hi n).toNat), .int .u64 ((Wd.lo n).toNat)]), (true, g2, [.int .u64 ((Wd.hi n).toNat), .int .u64 ((Wd.lo n).toNat)]), (true, g1, [.int .u64 ((Wd.hi hc).toNat), .int .u64 ((Wd.lo hc).toNat), .int .u32 k0.toNat, .int .u32 k1.toNat, .bool hb]), (L 8, g4, (cond (L 10) [.int .u64 ((Wd.hi n).toNat), .int .u64 ((Wd.lo n).toNat), .int .u32 k0.toNat, .int .u32 k1.toNat, .bool false] [.int .u64 ((Wd.hi 0#128).toNat), .int .u64 ((Wd.lo 0#128).toNat), .int .u32 0, .int .u32 0, .bool false])), (L 9, g5, (cond (L 11) [.int .u64 ((Wd.hi n).toNat), .int .u64 ((Wd.lo n).toNat), .int .u32 k0.toNat, .int .u32 k1.toNat, .bool false] [.int .u64 ((Wd.hi 0#128).toNat), .int .u64 ((Wd.lo 0#128).toNat), .int .u32 0, .int .u32 0, .bool false]))] []; rw [f10, f11]; exact H)⟩⟩
      · intro L A w up hun hd F ⟨g4, g5, p8, p9, H⟩
        have f10 : L 10 = false := up 10 3 rfl hun
        have f11 : L 11 = false := up 11 3 rfl hun
        rw [f10, f11] at H
        have F := Sx.Fr.to F (kv' := [(24, .agg #[.int .u64 ((Wd.hi n).toNat), .int .u64 ((Wd.lo n).toNat)]), (26, .agg #[.int .u32 k0.toNat, .int .u32 k1.toNat])]) ⟨rfl, rfl, trivial⟩
        refine Sx.step_on rfl (Sx.d_build (qs := #[(0, .agg #[.int .u64 ((Wd.hi n).toNat), .int .u64 ((Wd.lo n).toNat)]), (1, .agg #[.int .u32 k0.toNat, .int .u32 k1.toNat])]) (v := .agg #[.int .u64 ((Wd.hi n).toNat), .int .u64 ((Wd.lo n).toNat), .int .u32 k0.toNat, .int .u32 k1.toNat, .bool false]) F rfl rfl (by kernel_rfl)) ?_
        rintro xv w' ⟨hx, rfl⟩
        exact ⟨(fun cv hc => hx.trans (Option.some.inj (Option.some.inj hc))), ⟨g4, g5, (fun h => (Sx.put_ne rfl _).trans (p8 h)), (fun h => (Sx.put_ne rfl _).trans (p9 h)), (by show Sx.Own _ _ [(true, g3, [.int .u64 ((Wd.hi n).toNat), .int .u64 ((Wd.lo n).toNat)]), (true, g2, [.int .u64 ((Wd.hi n).toNat), .int .u64 ((Wd.lo n).toNat)]), (true, g1, [.int .u64 ((Wd.hi hc).toNat), .int .u64 ((Wd.lo hc).toNat), .int .u32 k0.toNat, .int .u32 k1.toNat, .bool hb]), (L 8, g4, (cond (L 10) [.int .u64 ((Wd.hi n).toNat), .int .u64 ((Wd.lo n).toNat), .int .u32 k0.toNat, .int .u32 k1.toNat, .bool false] [.int .u64 ((Wd.hi 0#128).toNat), .int .u64 ((Wd.lo 0#128).toNat), .int .u32 0, .int .u32 0, .bool false])), (L 9, g5, (cond (L 11) [.int .u64 ((Wd.hi n).toNat), .int .u64 ((Wd.lo n).toNat), .int .u32 k0.toNat, .int .u32 k1.toNat, .bool false] [.int .u64 ((Wd.hi 0#128).toNat), .int .u64 ((Wd.lo 0#128).toNat), .int .u32 0, .int .u32 0, .bool false]))] []; rw [f10, f11]; exact H)⟩⟩
      · intro L A w up hun hd F ⟨g4, g5, p8, p9, H⟩
        have f11 : L 11 = false := up 11 4 rfl hun
        rw [f11] at H
        have F := Sx.Fr.to F (kv' := [(5, .pointer (some ⟨g3, 0, none⟩))]) ⟨rfl, trivial⟩
        refine Sx.step_on rfl (Sx.d_load (i := 0) (xs := [.int .u64 ((Wd.hi n).toNat), .int .u64 ((Wd.lo n).toNat)]) rw_24 F H rfl rfl rfl rfl rfl) ?_
        rintro xv w' ⟨hx, rfl⟩
        exact ⟨(fun cv hc => hx.trans (Option.some.inj (Option.some.inj hc))), ⟨g4, g5, (fun h => (Sx.put_ne rfl _).trans (p8 h)), (fun h => (Sx.put_ne rfl _).trans (p9 h)), (by show Sx.Own _ _ [(true, g3, [.int .u64 ((Wd.hi n).toNat), .int .u64 ((Wd.lo n).toNat)]), (true, g2, [.int .u64 ((Wd.hi n).toNat), .int .u64 ((Wd.lo n).toNat)]), (true, g1, [.int .u64 ((Wd.hi hc).toNat), .int .u64 ((Wd.lo hc).toNat), .int .u32 k0.toNat, .int .u32 k1.toNat, .bool hb]), (L 8, g4, (cond (L 10) [.int .u64 ((Wd.hi n).toNat), .int .u64 ((Wd.lo n).toNat), .int .u32 k0.toNat, .int .u32 k1.toNat, .bool false] [.int .u64 ((Wd.hi 0#128).toNat), .int .u64 ((Wd.lo 0#128).toNat), .int .u32 0, .int .u32 0, .bool false])), (L 9, g5, (cond (L 11) [.int .u64 ((Wd.hi n).toNat), .int .u64 ((Wd.lo n).toNat), .int .u32 k0.toNat, .int .u32 k1.toNat, .bool false] [.int .u64 ((Wd.hi 0#128).toNat), .int .u64 ((Wd.lo 0#128).toNat), .int .u32 0, .int .u32 0, .bool false]))] []; rw [f11]; exact H)⟩⟩
      · intro L A w up hun hd F ⟨g4, g5, p8, p9, H⟩
        have f11 : L 11 = false := up 11 5 rfl hun
        rw [f11] at H
        have F := Sx.Fr.to F (kv' := [(3, .pointer (some ⟨g1, 0, none⟩))]) ⟨rfl, trivial⟩
        refine Sx.step_on rfl (Sx.d_faddr (v := .pointer (some ⟨g1, 2, none⟩)) F rfl rfl (fa_82_1 _ 0 _)) ?_
        rintro xv w' ⟨hx, rfl⟩
        exact ⟨(fun cv hc => hx.trans (Option.some.inj (Option.some.inj hc))), ⟨g4, g5, (fun h => (Sx.put_ne rfl _).trans (p8 h)), (fun h => (Sx.put_ne rfl _).trans (p9 h)), (by show Sx.Own _ _ [(true, g3, [.int .u64 ((Wd.hi n).toNat), .int .u64 ((Wd.lo n).toNat)]), (true, g2, [.int .u64 ((Wd.hi n).toNat), .int .u64 ((Wd.lo n).toNat)]), (true, g1, [.int .u64 ((Wd.hi hc).toNat), .int .u64 ((Wd.lo hc).toNat), .int .u32 k0.toNat, .int .u32 k1.toNat, .bool hb]), (L 8, g4, (cond (L 10) [.int .u64 ((Wd.hi n).toNat), .int .u64 ((Wd.lo n).toNat), .int .u32 k0.toNat, .int .u32 k1.toNat, .bool false] [.int .u64 ((Wd.hi 0#128).toNat), .int .u64 ((Wd.lo 0#128).toNat), .int .u32 0, .int .u32 0, .bool false])), (L 9, g5, (cond (L 11) [.int .u64 ((Wd.hi n).toNat), .int .u64 ((Wd.lo n).toNat), .int .u32 k0.toNat, .int .u32 k1.toNat, .bool false] [.int .u64 ((Wd.hi 0#128).toNat), .int .u64 ((Wd.lo 0#128).toNat), .int .u32 0, .int .u32 0, .bool false]))] []; rw [f11]; exact H)⟩⟩
      · intro L A w up hun hd F ⟨g4, g5, p8, p9, H⟩
        have f11 : L 11 = false := up 11 6 rfl hun
        rw [f11] at H
        have F := Sx.Fr.to F (kv' := [(29, .pointer (some ⟨g1, 2, none⟩))]) ⟨rfl, trivial⟩
        refine Sx.step_on rfl (Sx.d_load (i := 2) (xs := [.int .u32 k0.toNat, .int .u32 k1.toNat]) rw_80 F H rfl rfl rfl rfl rfl) ?_
        rintro xv w' ⟨hx, rfl⟩
        exact ⟨(fun cv hc => hx.trans (Option.some.inj (Option.some.inj hc))), ⟨g4, g5, (fun h => (Sx.put_ne rfl _).trans (p8 h)), (fun h => (Sx.put_ne rfl _).trans (p9 h)), (by show Sx.Own _ _ [(true, g3, [.int .u64 ((Wd.hi n).toNat), .int .u64 ((Wd.lo n).toNat)]), (true, g2, [.int .u64 ((Wd.hi n).toNat), .int .u64 ((Wd.lo n).toNat)]), (true, g1, [.int .u64 ((Wd.hi hc).toNat), .int .u64 ((Wd.lo hc).toNat), .int .u32 k0.toNat, .int .u32 k1.toNat, .bool hb]), (L 8, g4, (cond (L 10) [.int .u64 ((Wd.hi n).toNat), .int .u64 ((Wd.lo n).toNat), .int .u32 k0.toNat, .int .u32 k1.toNat, .bool false] [.int .u64 ((Wd.hi 0#128).toNat), .int .u64 ((Wd.lo 0#128).toNat), .int .u32 0, .int .u32 0, .bool false])), (L 9, g5, (cond (L 11) [.int .u64 ((Wd.hi n).toNat), .int .u64 ((Wd.lo n).toNat), .int .u32 k0.toNat, .int .u32 k1.toNat, .bool false] [.int .u64 ((Wd.hi 0#128).toNat), .int .u64 ((Wd.lo 0#128).toNat), .int .u32 0, .int .u32 0, .bool false]))] []; rw [f11]; exact H)⟩⟩
      · intro L A w up hun hd F ⟨g4, g5, p8, p9, H⟩
        have f11 : L 11 = false := up 11 7 rfl hun
        rw [f11] at H
        have F := Sx.Fr.to F (kv' := [(28, .agg #[.int .u64 ((Wd.hi n).toNat), .int .u64 ((Wd.lo n).toNat)]), (30, .agg #[.int .u32 k0.toNat, .int .u32 k1.toNat])]) ⟨rfl, rfl, trivial⟩
        refine Sx.step_on rfl (Sx.d_build (qs := #[(0, .agg #[.int .u64 ((Wd.hi n).toNat), .int .u64 ((Wd.lo n).toNat)]), (1, .agg #[.int .u32 k0.toNat, .int .u32 k1.toNat])]) (v := .agg #[.int .u64 ((Wd.hi n).toNat), .int .u64 ((Wd.lo n).toNat), .int .u32 k0.toNat, .int .u32 k1.toNat, .bool false]) F rfl rfl (by kernel_rfl)) ?_
        rintro xv w' ⟨hx, rfl⟩
        exact ⟨(fun cv hc => hx.trans (Option.some.inj (Option.some.inj hc))), ⟨g4, g5, (fun h => (Sx.put_ne rfl _).trans (p8 h)), (fun h => (Sx.put_ne rfl _).trans (p9 h)), (by show Sx.Own _ _ [(true, g3, [.int .u64 ((Wd.hi n).toNat), .int .u64 ((Wd.lo n).toNat)]), (true, g2, [.int .u64 ((Wd.hi n).toNat), .int .u64 ((Wd.lo n).toNat)]), (true, g1, [.int .u64 ((Wd.hi hc).toNat), .int .u64 ((Wd.lo hc).toNat), .int .u32 k0.toNat, .int .u32 k1.toNat, .bool hb]), (L 8, g4, (cond (L 10) [.int .u64 ((Wd.hi n).toNat), .int .u64 ((Wd.lo n).toNat), .int .u32 k0.toNat, .int .u32 k1.toNat, .bool false] [.int .u64 ((Wd.hi 0#128).toNat), .int .u64 ((Wd.lo 0#128).toNat), .int .u32 0, .int .u32 0, .bool false])), (L 9, g5, (cond (L 11) [.int .u64 ((Wd.hi n).toNat), .int .u64 ((Wd.lo n).toNat), .int .u32 k0.toNat, .int .u32 k1.toNat, .bool false] [.int .u64 ((Wd.hi 0#128).toNat), .int .u64 ((Wd.lo 0#128).toNat), .int .u32 0, .int .u32 0, .bool false]))] []; rw [f11]; exact H)⟩⟩
      · intro L A w up hun hd F ⟨g4, g5, p8, p9, H⟩
        have f8 : L 8 = false := hun
        have f10 : L 10 = false := up 10 8 rfl hun
        have f11 : L 11 = false := up 11 8 rfl hun
        rw [f8, f10, f11] at H
        have F := Sx.Fr.to F (kv' := []) trivial
        refine Sx.step_on rfl (Sx.d_alloc_at H rfl 3 [.int .u64 ((Wd.hi 0#128).toNat), .int .u64 ((Wd.lo 0#128).toNat), .int .u32 0, .int .u32 0, .bool false] zero_82) ?_
        rintro xv w' ⟨g', hx, H⟩
        exact ⟨(fun cv hc => by have h := Option.some.inj hc; cases h), ⟨g', g5, (fun _ => (Sx.put_same F (by decide) _).trans hx), (fun h => (Sx.put_ne rfl _).trans (p9 h)), (by show Sx.Own _ _ [(true, g3, [.int .u64 ((Wd.hi n).toNat), .int .u64 ((Wd.lo n).toNat)]), (true, g2, [.int .u64 ((Wd.hi n).toNat), .int .u64 ((Wd.lo n).toNat)]), (true, g1, [.int .u64 ((Wd.hi hc).toNat), .int .u64 ((Wd.lo hc).toNat), .int .u32 k0.toNat, .int .u32 k1.toNat, .bool hb]), (true, g', (cond (L 10) [.int .u64 ((Wd.hi n).toNat), .int .u64 ((Wd.lo n).toNat), .int .u32 k0.toNat, .int .u32 k1.toNat, .bool false] [.int .u64 ((Wd.hi 0#128).toNat), .int .u64 ((Wd.lo 0#128).toNat), .int .u32 0, .int .u32 0, .bool false])), (L 9, g5, (cond (L 11) [.int .u64 ((Wd.hi n).toNat), .int .u64 ((Wd.lo n).toNat), .int .u32 k0.toNat, .int .u32 k1.toNat, .bool false] [.int .u64 ((Wd.hi 0#128).toNat), .int .u64 ((Wd.lo 0#128).toNat), .int .u32 0, .int .u32 0, .bool false]))] []; rw [f10, f11]; exact H)⟩⟩
      · intro L A w up hun hd F ⟨g4, g5, p8, p9, H⟩
        have f9 : L 9 = false := hun
        have f10 : L 10 = false := up 10 9 rfl hun
        have f11 : L 11 = false := up 11 9 rfl hun
        rw [f9, f10, f11] at H
        have F := Sx.Fr.to F (kv' := []) trivial
        refine Sx.step_on rfl (Sx.d_alloc_at H rfl 4 [.int .u64 ((Wd.hi 0#128).toNat), .int .u64 ((Wd.lo 0#128).toNat), .int .u32 0, .int .u32 0, .bool false] zero_82) ?_
        rintro xv w' ⟨g', hx, H⟩
        exact ⟨(fun cv hc => by have h := Option.some.inj hc; cases h), ⟨g4, g', (fun h => (Sx.put_ne rfl _).trans (p8 h)), (fun _ => (Sx.put_same F (by decide) _).trans hx), (by show Sx.Own _ _ [(true, g3, [.int .u64 ((Wd.hi n).toNat), .int .u64 ((Wd.lo n).toNat)]), (true, g2, [.int .u64 ((Wd.hi n).toNat), .int .u64 ((Wd.lo n).toNat)]), (true, g1, [.int .u64 ((Wd.hi hc).toNat), .int .u64 ((Wd.lo hc).toNat), .int .u32 k0.toNat, .int .u32 k1.toNat, .bool hb]), (L 8, g4, (cond (L 10) [.int .u64 ((Wd.hi n).toNat), .int .u64 ((Wd.lo n).toNat), .int .u32 k0.toNat, .int .u32 k1.toNat, .bool false] [.int .u64 ((Wd.hi 0#128).toNat), .int .u64 ((Wd.lo 0#128).toNat), .int .u32 0, .int .u32 0, .bool false])), (true, g', (cond (L 11) [.int .u64 ((Wd.hi n).toNat), .int .u64 ((Wd.lo n).toNat), .int .u32 k0.toNat, .int .u32 k1.toNat, .bool false] [.int .u64 ((Wd.hi 0#128).toNat), .int .u64 ((Wd.lo 0#128).toNat), .int .u32 0, .int .u32 0, .bool false]))] []; rw [f10, f11]; exact H)⟩⟩
      · intro L A w up hun hd F ⟨g4, g5, p8, p9, H⟩
        have t8 : L 8 = true := hd 8 rfl
        have t9 : L 9 = true := hd 9 rfl
        have f10 : L 10 = false := hun
        have f11 : L 11 = false := up 11 10 rfl hun
        rw [t8, t9, f10, f11] at H
        have F := Sx.Fr.to F (kv' := [(27, .agg #[.int .u64 ((Wd.hi n).toNat), .int .u64 ((Wd.lo n).toNat), .int .u32 k0.toNat, .int .u32 k1.toNat, .bool false])]) ⟨rfl, trivial⟩
        have F := Sx.Fr.add F (p8 t8)
        have F := Sx.Fr.add F (p9 t9)
        refine Sx.step_on rfl (Sx.d_store (i := 3) (xs := [.int .u64 ((Wd.hi n).toNat), .int .u64 ((Wd.lo n).toNat), .int .u32 k0.toNat, .int .u32 k1.toNat, .bool false]) (us := [.int .u64 ((Wd.hi n).toNat), .int .u64 ((Wd.lo n).toNat), .int .u32 k0.toNat, .int .u32 k1.toNat, .bool false]) sz_82 F H rfl rfl rfl rfl rfl rfl rfl (Nat.le_of_ble_eq_true rfl) rfl) ?_
        intro xv w' H
        exact ⟨(fun cv hc => by have h := Option.some.inj hc; cases h), ⟨g4, g5, p8, p9, (by show Sx.Own _ _ [(true, g3, [.int .u64 ((Wd.hi n).toNat), .int .u64 ((Wd.lo n).toNat)]), (true, g2, [.int .u64 ((Wd.hi n).toNat), .int .u64 ((Wd.lo n).toNat)]), (true, g1, [.int .u64 ((Wd.hi hc).toNat), .int .u64 ((Wd.lo hc).toNat), .int .u32 k0.toNat, .int .u32 k1.toNat, .bool hb]), (L 8, g4, (cond (true) [.int .u64 ((Wd.hi n).toNat), .int .u64 ((Wd.lo n).toNat), .int .u32 k0.toNat, .int .u32 k1.toNat, .bool false] [.int .u64 ((Wd.hi 0#128).toNat), .int .u64 ((Wd.lo 0#128).toNat), .int .u32 0, .int .u32 0, .bool false])), (L 9, g5, (cond (L 11) [.int .u64 ((Wd.hi n).toNat), .int .u64 ((Wd.lo n).toNat), .int .u32 k0.toNat, .int .u32 k1.toNat, .bool false] [.int .u64 ((Wd.hi 0#128).toNat), .int .u64 ((Wd.lo 0#128).toNat), .int .u32 0, .int .u32 0, .bool false]))] []; rw [t8, t9, f11]; exact H)⟩⟩
      · intro L A w up hun hd F ⟨g4, g5, p8, p9, H⟩
        have t8 : L 8 = true := hd 8 rfl
        have t9 : L 9 = true := hd 9 rfl
        have t10 : L 10 = true := hd 10 rfl
        have f11 : L 11 = false := hun
        rw [t8, t9, t10, f11] at H
        have F := Sx.Fr.to F (kv' := [(31, .agg #[.int .u64 ((Wd.hi n).toNat), .int .u64 ((Wd.lo n).toNat), .int .u32 k0.toNat, .int .u32 k1.toNat, .bool false])]) ⟨rfl, trivial⟩
        have F := Sx.Fr.add F (p8 t8)
        have F := Sx.Fr.add F (p9 t9)
        refine Sx.step_on rfl (Sx.d_store (i := 4) (xs := [.int .u64 ((Wd.hi n).toNat), .int .u64 ((Wd.lo n).toNat), .int .u32 k0.toNat, .int .u32 k1.toNat, .bool false]) (us := [.int .u64 ((Wd.hi n).toNat), .int .u64 ((Wd.lo n).toNat), .int .u32 k0.toNat, .int .u32 k1.toNat, .bool false]) sz_82 F H rfl rfl rfl rfl rfl rfl rfl (Nat.le_of_ble_eq_true rfl) rfl) ?_
        intro xv w' H
        exact ⟨(fun cv hc => by have h := Option.some.inj hc; cases h), ⟨g4, g5, p8, p9, (by show Sx.Own _ _ [(true, g3, [.int .u64 ((Wd.hi n).toNat), .int .u64 ((Wd.lo n).toNat)]), (true, g2, [.int .u64 ((Wd.hi n).toNat), .int .u64 ((Wd.lo n).toNat)]), (true, g1, [.int .u64 ((Wd.hi hc).toNat), .int .u64 ((Wd.lo hc).toNat), .int .u32 k0.toNat, .int .u32 k1.toNat, .bool hb]), (L 8, g4, (cond (L 10) [.int .u64 ((Wd.hi n).toNat), .int .u64 ((Wd.lo n).toNat), .int .u32 k0.toNat, .int .u32 k1.toNat, .bool false] [.int .u64 ((Wd.hi 0#128).toNat), .int .u64 ((Wd.lo 0#128).toNat), .int .u32 0, .int .u32 0, .bool false])), (L 9, g5, (cond (true) [.int .u64 ((Wd.hi n).toNat), .int .u64 ((Wd.lo n).toNat), .int .u32 k0.toNat, .int .u32 k1.toNat, .bool false] [.int .u64 ((Wd.hi 0#128).toNat), .int .u64 ((Wd.lo 0#128).toNat), .int .u32 0, .int .u32 0, .bool false]))] []; rw [t8, t9, t10]; exact H)⟩⟩
    · intro L A w hL F ⟨g4, g5, p8, p9, H⟩
      have t8 : L 8 = true := hL 8 rfl
      have t9 : L 9 = true := hL 9 rfl
      have t10 : L 10 = true := hL 10 rfl
      have t11 : L 11 = true := hL 11 rfl
      rw [t8, t9, t10, t11] at H
      have F := Sx.Fr.add F (p8 t8)
      have F := Sx.Fr.add F (p9 t9)
      have F := Sx.Fr.to F (kv' := [(0, .agg #[.int .u64 ((Wd.hi hc).toNat), .int .u64 ((Wd.lo hc).toNat), .int .u32 k0.toNat, .int .u32 k1.toNat, .bool hb]), (1, .agg #[.int .u64 ((Wd.hi n).toNat), .int .u64 ((Wd.lo n).toNat)]), (2, .agg #[.int .u64 ((Wd.hi n).toNat), .int .u64 ((Wd.lo n).toNat)]), (3, .pointer (some ⟨g1, 0, none⟩)), (4, .pointer (some ⟨g2, 0, none⟩)), (5, .pointer (some ⟨g3, 0, none⟩)), (6, .bool false), (11, .bool true), (12, .bool false), (23, .bool false), (7, .pointer (some ⟨g4, 0, none⟩)), (8, .pointer (some ⟨g5, 0, none⟩))]) ⟨rfl, rfl, rfl, rfl, rfl, rfl, rfl, rfl, rfl, rfl, rfl, rfl, trivial⟩
      refine hK6 _ _ ?_
      refine Sx.seq (fun K7 hK7 => ?_)
      have F := Sx.Fr.to F (kv' := [(0, .agg #[.int .u64 ((Wd.hi hc).toNat), .int .u64 ((Wd.lo hc).toNat), .int .u32 k0.toNat, .int .u32 k1.toNat, .bool hb]), (1, .agg #[.int .u64 ((Wd.hi n).toNat), .int .u64 ((Wd.lo n).toNat)]), (2, .agg #[.int .u64 ((Wd.hi n).toNat), .int .u64 ((Wd.lo n).toNat)]), (3, .pointer (some ⟨g1, 0, none⟩)), (4, .pointer (some ⟨g2, 0, none⟩)), (5, .pointer (some ⟨g3, 0, none⟩)), (6, .bool false), (11, .bool true), (12, .bool false), (23, .bool false), (7, .pointer (some ⟨g4, 0, none⟩)), (8, .pointer (some ⟨g5, 0, none⟩))]) ⟨rfl, rfl, rfl, rfl, rfl, rfl, rfl, rfl, rfl, rfl, rfl, rfl, trivial⟩
      refine Sx.drawn F (by kernel_rfl) (by kernel_rfl) (by kernel_rfl) [some (.agg #[.int .u64 ((Wd.hi n).toNat), .int .u64 ((Wd.lo n).toNat), .int .u32 k0.toNat, .int .u32 k1.toNat, .bool false]), some (.int .u64 ((Hf.word ⟨n, k0, k1, false⟩).toNat)), some (.agg #[.int .u64 ((Wd.hi n).toNat), .int .u64 ((Wd.lo n).toNat), .int .u32 k0.toNat, .int .u32 k1.toNat, .bool false]), some (.agg #[.int .u64 ((Wd.hi n).toNat), .int .u64 ((Wd.lo n).toNat), .int .u32 k0.toNat, .int .u32 k1.toNat, .bool true]), some (.int .u64 ((Hf.word ⟨n, k0, k1, true⟩).toNat)), some (.agg #[.int .u64 ((Hf.word ⟨n, k0, k1, false⟩).toNat), .int .u64 ((Hf.word ⟨n, k0, k1, true⟩).toNat)]), none, none] (fun L A w => ∃ g6 : Nat, (L 6 = true → A.eval (.tmp 9) = .pointer (some ⟨g6, 0, none⟩)) ∧ Sx.Own w0 w [(true, g3, [.int .u64 ((Wd.hi n).toNat), .int .u64 ((Wd.lo n).toNat)]), (true, g2, [.int .u64 ((Wd.hi n).toNat), .int .u64 ((Wd.lo n).toNat)]), (true, g1, [.int .u64 ((Wd.hi hc).toNat), .int .u64 ((Wd.lo hc).toNat), .int .u32 k0.toNat, .int .u32 k1.toNat, .bool hb]), (true, g4, [.int .u64 ((Wd.hi n).toNat), .int .u64 ((Wd.lo n).toNat), .int .u32 k0.toNat, .int .u32 k1.toNat, .bool false]), (true, g5, [.int .u64 ((Wd.hi n).toNat), .int .u64 ((Wd.lo n).toNat), .int .u32 k0.toNat, .int .u32 k1.toNat, .bool false]), (L 6, g6, (cond (L 7) [.int .u64 ((Hf.word ⟨n, k0, k1, false⟩).toNat), .int .u64 ((Hf.word ⟨n, k0, k1, true⟩).toNat)] [.int .u64 0, .int .u64 0]))] []) ⟨0, (fun h => by cases h), H.drew.pad [(false, 0, [.int .u64 0, .int .u64 0])] rfl [] rfl⟩ ?_ ?_
      · refine ⟨?_, ?_, ?_, ?_, ?_, ?_, ?_, ?_, trivial⟩
        · intro L A w up hun hd F ⟨g6, p6, H⟩
          have f7 : L 7 = false := up 7 0 rfl hun
          rw [f7] at H
          have F := Sx.Fr.to F (kv' := [(7, .pointer (some ⟨g4, 0, none⟩))]) ⟨rfl, trivial⟩
          refine Sx.step_on rfl (Sx.d_load (i := 3) (xs := [.int .u64 ((Wd.hi n).toNat), .int .u64 ((Wd.lo n).toNat), .int .u32 k0.toNat, .int .u32 k1.toNat, .bool false]) rw_82 F H rfl rfl rfl rfl rfl) ?_
          rintro xv w' ⟨hx, rfl⟩
          exact ⟨(fun cv hc => hx.trans (Option.some.inj (Option.some.inj hc))), ⟨g6, (fun h => (Sx.put_ne rfl _).trans (p6 h)), (by show Sx.Own _ _ [(true, g3, [.int .u64 ((Wd.hi n).toNat), .int .u64 ((Wd.lo n).toNat)]), (true, g2, [.int .u64 ((Wd.hi n).toNat), .int .u64 ((Wd.lo n).toNat)]), (true, g1, [.int .u64 ((Wd.hi hc).toNat), .int .u64 ((Wd.lo hc).toNat), .int .u32 k0.toNat, .int .u32 k1.toNat, .bool hb]), (true, g4, [.int .u64 ((Wd.hi n).toNat), .int .u64 ((Wd.lo n).toNat), .int .u32 k0.toNat, .int .u32 k1.toNat, .bool false]), (true, g5, [.int .u64 ((Wd.hi n).toNat), .int .u64 ((Wd.lo n).toNat), .int .u32 k0.toNat, .int .u32 k1.toNat, .bool false]), (L 6, g6, (cond (L 7) [.int .u64 ((Hf.word ⟨n, k0, k1, false⟩).toNat), .int .u64 ((Hf.word ⟨n, k0, k1, true⟩).toNat)] [.int .u64 0, .int .u64 0]))] []; rw [f7]; exact H)⟩⟩
        · intro L A w up hun hd F ⟨g6, p6, H⟩
          have f7 : L 7 = false := up 7 1 rfl hun
          rw [f7] at H
          have F := Sx.Fr.to F (kv' := [(32, .agg #[.int .u64 ((Wd.hi n).toNat), .int .u64 ((Wd.lo n).toNat), .int .u32 k0.toNat, .int .u32 k1.toNat, .bool false])]) ⟨rfl, trivial⟩
          refine Sx.step_on rfl (Sx.d_call (vs := [.agg #[.int .u64 ((Wd.hi n).toNat), .int .u64 ((Wd.lo n).toNat), .int .u32 k0.toNat, .int .u32 k1.toNat, .bool false]]) (v := .int .u64 ((Hf.word ⟨n, k0, k1, false⟩).toNat)) if_50 F H rfl rfl (hword_c n k0 k1 false _)) ?_
          rintro xv w' ⟨hx, H⟩
          exact ⟨(fun cv hc => hx.trans (Option.some.inj (Option.some.inj hc))), ⟨g6, (fun h => (Sx.put_ne rfl _).trans (p6 h)), (by show Sx.Own _ _ [(true, g3, [.int .u64 ((Wd.hi n).toNat), .int .u64 ((Wd.lo n).toNat)]), (true, g2, [.int .u64 ((Wd.hi n).toNat), .int .u64 ((Wd.lo n).toNat)]), (true, g1, [.int .u64 ((Wd.hi hc).toNat), .int .u64 ((Wd.lo hc).toNat), .int .u32 k0.toNat, .int .u32 k1.toNat, .bool hb]), (true, g4, [.int .u64 ((Wd.hi n).toNat), .int .u64 ((Wd.lo n).toNat), .int .u32 k0.toNat, .int .u32 k1.toNat, .bool false]), (true, g5, [.int .u64 ((Wd.hi n).toNat), .int .u64 ((Wd.lo n).toNat), .int .u32 k0.toNat, .int .u32 k1.toNat, .bool false]), (L 6, g6, (cond (L 7) [.int .u64 ((Hf.word ⟨n, k0, k1, false⟩).toNat), .int .u64 ((Hf.word ⟨n, k0, k1, true⟩).toNat)] [.int .u64 0, .int .u64 0]))] []; rw [f7]; exact H)⟩⟩
        · intro L A w up hun hd F ⟨g6, p6, H⟩
          have f7 : L 7 = false := up 7 2 rfl hun
          rw [f7] at H
          have F := Sx.Fr.to F (kv' := [(7, .pointer (some ⟨g4, 0, none⟩))]) ⟨rfl, trivial⟩
          refine Sx.step_on rfl (Sx.d_load (i := 3) (xs := [.int .u64 ((Wd.hi n).toNat), .int .u64 ((Wd.lo n).toNat), .int .u32 k0.toNat, .int .u32 k1.toNat, .bool false]) rw_82 F H rfl rfl rfl rfl rfl) ?_
          rintro xv w' ⟨hx, rfl⟩
          exact ⟨(fun cv hc => hx.trans (Option.some.inj (Option.some.inj hc))), ⟨g6, (fun h => (Sx.put_ne rfl _).trans (p6 h)), (by show Sx.Own _ _ [(true, g3, [.int .u64 ((Wd.hi n).toNat), .int .u64 ((Wd.lo n).toNat)]), (true, g2, [.int .u64 ((Wd.hi n).toNat), .int .u64 ((Wd.lo n).toNat)]), (true, g1, [.int .u64 ((Wd.hi hc).toNat), .int .u64 ((Wd.lo hc).toNat), .int .u32 k0.toNat, .int .u32 k1.toNat, .bool hb]), (true, g4, [.int .u64 ((Wd.hi n).toNat), .int .u64 ((Wd.lo n).toNat), .int .u32 k0.toNat, .int .u32 k1.toNat, .bool false]), (true, g5, [.int .u64 ((Wd.hi n).toNat), .int .u64 ((Wd.lo n).toNat), .int .u32 k0.toNat, .int .u32 k1.toNat, .bool false]), (L 6, g6, (cond (L 7) [.int .u64 ((Hf.word ⟨n, k0, k1, false⟩).toNat), .int .u64 ((Hf.word ⟨n, k0, k1, true⟩).toNat)] [.int .u64 0, .int .u64 0]))] []; rw [f7]; exact H)⟩⟩
        · intro L A w up hun hd F ⟨g6, p6, H⟩
          have f7 : L 7 = false := up 7 3 rfl hun
          rw [f7] at H
          have F := Sx.Fr.to F (kv' := [(34, .agg #[.int .u64 ((Wd.hi n).toNat), .int .u64 ((Wd.lo n).toNat), .int .u32 k0.toNat, .int .u32 k1.toNat, .bool false])]) ⟨rfl, trivial⟩
          refine Sx.step_on rfl (Sx.d_call (vs := [.agg #[.int .u64 ((Wd.hi n).toNat), .int .u64 ((Wd.lo n).toNat), .int .u32 k0.toNat, .int .u32 k1.toNat, .bool false]]) (v := .agg #[.int .u64 ((Wd.hi n).toNat), .int .u64 ((Wd.lo n).toNat), .int .u32 k0.toNat, .int .u32 k1.toNat, .bool true]) if_51 F H rfl rfl (hstep_c n k0 k1 false _)) ?_
          rintro xv w' ⟨hx, H⟩
          exact ⟨(fun cv hc => hx.trans (Option.some.inj (Option.some.inj hc))), ⟨g6, (fun h => (Sx.put_ne rfl _).trans (p6 h)), (by show Sx.Own _ _ [(true, g3, [.int .u64 ((Wd.hi n).toNat), .int .u64 ((Wd.lo n).toNat)]), (true, g2, [.int .u64 ((Wd.hi n).toNat), .int .u64 ((Wd.lo n).toNat)]), (true, g1, [.int .u64 ((Wd.hi hc).toNat), .int .u64 ((Wd.lo hc).toNat), .int .u32 k0.toNat, .int .u32 k1.toNat, .bool hb]), (true, g4, [.int .u64 ((Wd.hi n).toNat), .int .u64 ((Wd.lo n).toNat), .int .u32 k0.toNat, .int .u32 k1.toNat, .bool false]), (true, g5, [.int .u64 ((Wd.hi n).toNat), .int .u64 ((Wd.lo n).toNat), .int .u32 k0.toNat, .int .u32 k1.toNat, .bool false]), (L 6, g6, (cond (L 7) [.int .u64 ((Hf.word ⟨n, k0, k1, false⟩).toNat), .int .u64 ((Hf.word ⟨n, k0, k1, true⟩).toNat)] [.int .u64 0, .int .u64 0]))] []; rw [f7]; exact H)⟩⟩
        · intro L A w up hun hd F ⟨g6, p6, H⟩
          have f7 : L 7 = false := up 7 4 rfl hun
          rw [f7] at H
          have F := Sx.Fr.to F (kv' := [(35, .agg #[.int .u64 ((Wd.hi n).toNat), .int .u64 ((Wd.lo n).toNat), .int .u32 k0.toNat, .int .u32 k1.toNat, .bool true])]) ⟨rfl, trivial⟩
          refine Sx.step_on rfl (Sx.d_call (vs := [.agg #[.int .u64 ((Wd.hi n).toNat), .int .u64 ((Wd.lo n).toNat), .int .u32 k0.toNat, .int .u32 k1.toNat, .bool true]]) (v := .int .u64 ((Hf.word ⟨n, k0, k1, true⟩).toNat)) if_50 F H rfl rfl (hword_c n k0 k1 true _)) ?_
          rintro xv w' ⟨hx, H⟩
          exact ⟨(fun cv hc => hx.trans (Option.some.inj (Option.some.inj hc))), ⟨g6, (fun h => (Sx.put_ne rfl _).trans (p6 h)), (by show Sx.Own _ _ [(true, g3, [.int .u64 ((Wd.hi n).toNat), .int .u64 ((Wd.lo n).toNat)]), (true, g2, [.int .u64 ((Wd.hi n).toNat), .int .u64 ((Wd.lo n).toNat)]), (true, g1, [.int .u64 ((Wd.hi hc).toNat), .int .u64 ((Wd.lo hc).toNat), .int .u32 k0.toNat, .int .u32 k1.toNat, .bool hb]), (true, g4, [.int .u64 ((Wd.hi n).toNat), .int .u64 ((Wd.lo n).toNat), .int .u32 k0.toNat, .int .u32 k1.toNat, .bool false]), (true, g5, [.int .u64 ((Wd.hi n).toNat), .int .u64 ((Wd.lo n).toNat), .int .u32 k0.toNat, .int .u32 k1.toNat, .bool false]), (L 6, g6, (cond (L 7) [.int .u64 ((Hf.word ⟨n, k0, k1, false⟩).toNat), .int .u64 ((Hf.word ⟨n, k0, k1, true⟩).toNat)] [.int .u64 0, .int .u64 0]))] []; rw [f7]; exact H)⟩⟩
        · intro L A w up hun hd F ⟨g6, p6, H⟩
          have f7 : L 7 = false := up 7 5 rfl hun
          rw [f7] at H
          have F := Sx.Fr.to F (kv' := [(33, .int .u64 ((Hf.word ⟨n, k0, k1, false⟩).toNat)), (36, .int .u64 ((Hf.word ⟨n, k0, k1, true⟩).toNat))]) ⟨rfl, rfl, trivial⟩
          refine Sx.step_on rfl (Sx.d_build (qs := #[(0, .int .u64 ((Hf.word ⟨n, k0, k1, false⟩).toNat)), (1, .int .u64 ((Hf.word ⟨n, k0, k1, true⟩).toNat))]) (v := .agg #[.int .u64 ((Hf.word ⟨n, k0, k1, false⟩).toNat), .int .u64 ((Hf.word ⟨n, k0, k1, true⟩).toNat)]) F rfl rfl (by kernel_rfl)) ?_
          rintro xv w' ⟨hx, rfl⟩
          exact ⟨(fun cv hc => hx.trans (Option.some.inj (Option.some.inj hc))), ⟨g6, (fun h => (Sx.put_ne rfl _).trans (p6 h)), (by show Sx.Own _ _ [(true, g3, [.int .u64 ((Wd.hi n).toNat), .int .u64 ((Wd.lo n).toNat)]), (true, g2, [.int .u64 ((Wd.hi n).toNat), .int .u64 ((Wd.lo n).toNat)]), (true, g1, [.int .u64 ((Wd.hi hc).toNat), .int .u64 ((Wd.lo hc).toNat), .int .u32 k0.toNat, .int .u32 k1.toNat, .bool hb]), (true, g4, [.int .u64 ((Wd.hi n).toNat), .int .u64 ((Wd.lo n).toNat), .int .u32 k0.toNat, .int .u32 k1.toNat, .bool false]), (true, g5, [.int .u64 ((Wd.hi n).toNat), .int .u64 ((Wd.lo n).toNat), .int .u32 k0.toNat, .int .u32 k1.toNat, .bool false]), (L 6, g6, (cond (L 7) [.int .u64 ((Hf.word ⟨n, k0, k1, false⟩).toNat), .int .u64 ((Hf.word ⟨n, k0, k1, true⟩).toNat)] [.int .u64 0, .int .u64 0]))] []; rw [f7]; exact H)⟩⟩
        · intro L A w up hun hd F ⟨g6, p6, H⟩
          have f6 : L 6 = false := hun
          have f7 : L 7 = false := up 7 6 rfl hun
          rw [f6, f7] at H
          have F := Sx.Fr.to F (kv' := []) trivial
          refine Sx.step_on rfl (Sx.d_alloc_at H rfl 5 [.int .u64 0, .int .u64 0] zero_101) ?_
          rintro xv w' ⟨g', hx, H⟩
          exact ⟨(fun cv hc => by have h := Option.some.inj hc; cases h), ⟨g', (fun _ => (Sx.put_same F (by decide) _).trans hx), (by show Sx.Own _ _ [(true, g3, [.int .u64 ((Wd.hi n).toNat), .int .u64 ((Wd.lo n).toNat)]), (true, g2, [.int .u64 ((Wd.hi n).toNat), .int .u64 ((Wd.lo n).toNat)]), (true, g1, [.int .u64 ((Wd.hi hc).toNat), .int .u64 ((Wd.lo hc).toNat), .int .u32 k0.toNat, .int .u32 k1.toNat, .bool hb]), (true, g4, [.int .u64 ((Wd.hi n).toNat), .int .u64 ((Wd.lo n).toNat), .int .u32 k0.toNat, .int .u32 k1.toNat, .bool false]), (true, g5, [.int .u64 ((Wd.hi n).toNat), .int .u64 ((Wd.lo n).toNat), .int .u32 k0.toNat, .int .u32 k1.toNat, .bool false]), (true, g', (cond (L 7) [.int .u64 ((Hf.word ⟨n, k0, k1, false⟩).toNat), .int .u64 ((Hf.word ⟨n, k0, k1, true⟩).toNat)] [.int .u64 0, .int .u64 0]))] []; rw [f7]; exact H)⟩⟩
        · intro L A w up hun hd F ⟨g6, p6, H⟩
          have t6 : L 6 = true := hd 6 rfl
          have f7 : L 7 = false := hun
          rw [t6, f7] at H
          have F := Sx.Fr.to F (kv' := [(37, .agg #[.int .u64 ((Hf.word ⟨n, k0, k1, false⟩).toNat), .int .u64 ((Hf.word ⟨n, k0, k1, true⟩).toNat)])]) ⟨rfl, trivial⟩
          have F := Sx.Fr.add F (p6 t6)
          refine Sx.step_on rfl (Sx.d_store (i := 5) (xs := [.int .u64 ((Hf.word ⟨n, k0, k1, false⟩).toNat), .int .u64 ((Hf.word ⟨n, k0, k1, true⟩).toNat)]) (us := [.int .u64 ((Hf.word ⟨n, k0, k1, false⟩).toNat), .int .u64 ((Hf.word ⟨n, k0, k1, true⟩).toNat)]) sz_101 F H rfl rfl rfl rfl rfl rfl rfl (Nat.le_of_ble_eq_true rfl) rfl) ?_
          intro xv w' H
          exact ⟨(fun cv hc => by have h := Option.some.inj hc; cases h), ⟨g6, p6, (by show Sx.Own _ _ [(true, g3, [.int .u64 ((Wd.hi n).toNat), .int .u64 ((Wd.lo n).toNat)]), (true, g2, [.int .u64 ((Wd.hi n).toNat), .int .u64 ((Wd.lo n).toNat)]), (true, g1, [.int .u64 ((Wd.hi hc).toNat), .int .u64 ((Wd.lo hc).toNat), .int .u32 k0.toNat, .int .u32 k1.toNat, .bool hb]), (true, g4, [.int .u64 ((Wd.hi n).toNat), .int .u64 ((Wd.lo n).toNat), .int .u32 k0.toNat, .int .u32 k1.toNat, .bool false]), (true, g5, [.int .u64 ((Wd.hi n).toNat), .int .u64 ((Wd.lo n).toNat), .int .u32 k0.toNat, .int .u32 k1.toNat, .bool false]), (L 6, g6, (cond (true) [.int .u64 ((Hf.word ⟨n, k0, k1, false⟩).toNat), .int .u64 ((Hf.word ⟨n, k0, k1, true⟩).toNat)] [.int .u64 0, .int .u64 0]))] []; rw [t6]; exact H)⟩⟩
      · intro L A w hL F ⟨g6, p6, H⟩
        have t6 : L 6 = true := hL 6 rfl
        have t7 : L 7 = true := hL 7 rfl
        rw [t6, t7] at H
        have F := Sx.Fr.add F (p6 t6)
        have F := Sx.Fr.to F (kv' := [(0, .agg #[.int .u64 ((Wd.hi hc).toNat), .int .u64 ((Wd.lo hc).toNat), .int .u32 k0.toNat, .int .u32 k1.toNat, .bool hb]), (1, .agg #[.int .u64 ((Wd.hi n).toNat), .int .u64 ((Wd.lo n).toNat)]), (2, .agg #[.int .u64 ((Wd.hi n).toNat), .int .u64 ((Wd.lo n).toNat)]), (3, .pointer (some ⟨g1, 0, none⟩)), (4, .pointer (some ⟨g2, 0, none⟩)), (5, .pointer (some ⟨g3, 0, none⟩)), (6, .bool false), (11, .bool true), (12, .bool false), (23, .bool false), (7, .pointer (some ⟨g4, 0, none⟩)), (8, .pointer (some ⟨g5, 0, none⟩)), (9, .pointer (some ⟨g6, 0, none⟩))]) ⟨rfl, rfl, rfl, rfl, rfl, rfl, rfl, rfl, rfl, rfl, rfl, rfl, rfl, trivial⟩
        refine hK7 _ _ ?_
        refine Sx.seq (fun K8 hK8 => ?_)
        have F := Sx.Fr.to F (kv' := [(0, .agg #[.int .u64 ((Wd.hi hc).toNat), .int .u64 ((Wd.lo hc).toNat), .int .u32 k0.toNat, .int .u32 k1.toNat, .bool hb]), (1, .agg #[.int .u64 ((Wd.hi n).toNat), .int .u64 ((Wd.lo n).toNat)]), (2, .agg #[.int .u64 ((Wd.hi n).toNat), .int .u64 ((Wd.lo n).toNat)]), (3, .pointer (some ⟨g1, 0, none⟩)), (4, .pointer (some ⟨g2, 0, none⟩)), (5, .pointer (some ⟨g3, 0, none⟩)), (6, .bool false), (11, .bool true), (12, .bool false), (23, .bool false), (7, .pointer (some ⟨g4, 0, none⟩)), (8, .pointer (some ⟨g5, 0, none⟩)), (9, .pointer (some ⟨g6, 0, none⟩))]) ⟨rfl, rfl, rfl, rfl, rfl, rfl, rfl, rfl, rfl, rfl, rfl, rfl, rfl, trivial⟩
        refine Sx.drawn F (by kernel_rfl) (by kernel_rfl) (by kernel_rfl) [some (.agg #[.int .u64 ((Wd.hi n).toNat), .int .u64 ((Wd.lo n).toNat), .int .u32 k0.toNat, .int .u32 k1.toNat, .bool false]), some (.int .u64 ((Hf.word ⟨n, k0, k1, false⟩).toNat)), some (.agg #[.int .u64 ((Wd.hi n).toNat), .int .u64 ((Wd.lo n).toNat), .int .u32 k0.toNat, .int .u32 k1.toNat, .bool false]), some (.agg #[.int .u64 ((Wd.hi n).toNat), .int .u64 ((Wd.lo n).toNat), .int .u32 k0.toNat, .int .u32 k1.toNat, .bool true]), some (.int .u64 ((Hf.word ⟨n, k0, k1, true⟩).toNat)), some (.agg #[.int .u64 ((Hf.word ⟨n, k0, k1, false⟩).toNat), .int .u64 ((Hf.word ⟨n, k0, k1, true⟩).toNat)]), none, none] (fun L A w => ∃ g7 : Nat, (L 6 = true → A.eval (.tmp 10) = .pointer (some ⟨g7, 0, none⟩)) ∧ Sx.Own w0 w [(true, g3, [.int .u64 ((Wd.hi n).toNat), .int .u64 ((Wd.lo n).toNat)]), (true, g2, [.int .u64 ((Wd.hi n).toNat), .int .u64 ((Wd.lo n).toNat)]), (true, g1, [.int .u64 ((Wd.hi hc).toNat), .int .u64 ((Wd.lo hc).toNat), .int .u32 k0.toNat, .int .u32 k1.toNat, .bool hb]), (true, g4, [.int .u64 ((Wd.hi n).toNat), .int .u64 ((Wd.lo n).toNat), .int .u32 k0.toNat, .int .u32 k1.toNat, .bool false]), (true, g5, [.int .u64 ((Wd.hi n).toNat), .int .u64 ((Wd.lo n).toNat), .int .u32 k0.toNat, .int .u32 k1.toNat, .bool false]), (true, g6, [.int .u64 ((Hf.word ⟨n, k0, k1, false⟩).toNat), .int .u64 ((Hf.word ⟨n, k0, k1, true⟩).toNat)]), (L 6, g7, (cond (L 7) [.int .u64 ((Hf.word ⟨n, k0, k1, false⟩).toNat), .int .u64 ((Hf.word ⟨n, k0, k1, true⟩).toNat)] [.int .u64 0, .int .u64 0]))] []) ⟨0, (fun h => by cases h), H.drew.pad [(false, 0, [.int .u64 0, .int .u64 0])] rfl [] rfl⟩ ?_ ?_
        · refine ⟨?_, ?_, ?_, ?_, ?_, ?_, ?_, ?_, trivial⟩
          · intro L A w up hun hd F ⟨g7, p6, H⟩
            have f7 : L 7 = false := up 7 0 rfl hun
            rw [f7] at H
            have F := Sx.Fr.to F (kv' := [(8, .pointer (some ⟨g5, 0, none⟩))]) ⟨rfl, trivial⟩
            refine Sx.step_on rfl (Sx.d_load (i := 4) (xs := [.int .u64 ((Wd.hi n).toNat), .int .u64 ((Wd.lo n).toNat), .int .u32 k0.toNat, .int .u32 k1.toNat, .bool false]) rw_82 F H rfl rfl rfl rfl rfl) ?_
            rintro xv w' ⟨hx, rfl⟩
            exact ⟨(fun cv hc => hx.trans (Option.some.inj (Option.some.inj hc))), ⟨g7, (fun h => (Sx.put_ne rfl _).trans (p6 h)), (by show Sx.Own _ _ [(true, g3, [.int .u64 ((Wd.hi n).toNat), .int .u64 ((Wd.lo n).toNat)]), (true, g2, [.int .u64 ((Wd.hi n).toNat), .int .u64 ((Wd.lo n).toNat)]), (true, g1, [.int .u64 ((Wd.hi hc).toNat), .int .u64 ((Wd.lo hc).toNat), .int .u32 k0.toNat, .int .u32 k1.toNat, .bool hb]), (true, g4, [.int .u64 ((Wd.hi n).toNat), .int .u64 ((Wd.lo n).toNat), .int .u32 k0.toNat, .int .u32 k1.toNat, .bool false]), (true, g5, [.int .u64 ((Wd.hi n).toNat), .int .u64 ((Wd.lo n).toNat), .int .u32 k0.toNat, .int .u32 k1.toNat, .bool false]), (true, g6, [.int .u64 ((Hf.word ⟨n, k0, k1, false⟩).toNat), .int .u64 ((Hf.word ⟨n, k0, k1, true⟩).toNat)]), (L 6, g7, (cond (L 7) [.int .u64 ((Hf.word ⟨n, k0, k1, false⟩).toNat), .int .u64 ((Hf.word ⟨n, k0, k1, true⟩).toNat)] [.int .u64 0, .int .u64 0]))] []; rw [f7]; exact H)⟩⟩
          · intro L A w up hun hd F ⟨g7, p6, H⟩
            have f7 : L 7 = false := up 7 1 rfl hun
            rw [f7] at H
            have F := Sx.Fr.to F (kv' := [(38, .agg #[.int .u64 ((Wd.hi n).toNat), .int .u64 ((Wd.lo n).toNat), .int .u32 k0.toNat, .int .u32 k1.toNat, .bool false])]) ⟨rfl, trivial⟩
            refine Sx.step_on rfl (Sx.d_call (vs := [.agg #[.int .u64 ((Wd.hi n).toNat), .int .u64 ((Wd.lo n).toNat), .int .u32 k0.toNat, .int .u32 k1.toNat, .bool false]]) (v := .int .u64 ((Hf.word ⟨n, k0, k1, false⟩).toNat)) if_50 F H rfl rfl (hword_c n k0 k1 false _)) ?_
            rintro xv w' ⟨hx, H⟩
            exact ⟨(fun cv hc => hx.trans (Option.some.inj (Option.some.inj hc))), ⟨g7, (fun h => (Sx.put_ne rfl _).trans (p6 h)), (by show Sx.Own _ _ [(true, g3, [.int .u64 ((Wd.hi n).toNat), .int .u64 ((Wd.lo n).toNat)]), (true, g2, [.int .u64 ((Wd.hi n).toNat), .int .u64 ((Wd.lo n).toNat)]), (true, g1, [.int .u64 ((Wd.hi hc).toNat), .int .u64 ((Wd.lo hc).toNat), .int .u32 k0.toNat, .int .u32 k1.toNat, .bool hb]), (true, g4, [.int .u64 ((Wd.hi n).toNat), .int .u64 ((Wd.lo n).toNat), .int .u32 k0.toNat, .int .u32 k1.toNat, .bool false]), (true, g5, [.int .u64 ((Wd.hi n).toNat), .int .u64 ((Wd.lo n).toNat), .int .u32 k0.toNat, .int .u32 k1.toNat, .bool false]), (true, g6, [.int .u64 ((Hf.word ⟨n, k0, k1, false⟩).toNat), .int .u64 ((Hf.word ⟨n, k0, k1, true⟩).toNat)]), (L 6, g7, (cond (L 7) [.int .u64 ((Hf.word ⟨n, k0, k1, false⟩).toNat), .int .u64 ((Hf.word ⟨n, k0, k1, true⟩).toNat)] [.int .u64 0, .int .u64 0]))] []; rw [f7]; exact H)⟩⟩
          · intro L A w up hun hd F ⟨g7, p6, H⟩
            have f7 : L 7 = false := up 7 2 rfl hun
            rw [f7] at H
            have F := Sx.Fr.to F (kv' := [(8, .pointer (some ⟨g5, 0, none⟩))]) ⟨rfl, trivial⟩
            refine Sx.step_on rfl (Sx.d_load (i := 4) (xs := [.int .u64 ((Wd.hi n).toNat), .int .u64 ((Wd.lo n).toNat), .int .u32 k0.toNat, .int .u32 k1.toNat, .bool false]) rw_82 F H rfl rfl rfl rfl rfl) ?_
            rintro xv w' ⟨hx, rfl⟩
            exact ⟨(fun cv hc => hx.trans (Option.some.inj (Option.some.inj hc))), ⟨g7, (fun h => (Sx.put_ne rfl _).trans (p6 h)), (by show Sx.Own _ _ [(true, g3, [.int .u64 ((Wd.hi n).toNat), .int .u64 ((Wd.lo n).toNat)]), (true, g2, [.int .u64 ((Wd.hi n).toNat), .int .u64 ((Wd.lo n).toNat)]), (true, g1, [.int .u64 ((Wd.hi hc).toNat), .int .u64 ((Wd.lo hc).toNat), .int .u32 k0.toNat, .int .u32 k1.toNat, .bool hb]), (true, g4, [.int .u64 ((Wd.hi n).toNat), .int .u64 ((Wd.lo n).toNat), .int .u32 k0.toNat, .int .u32 k1.toNat, .bool false]), (true, g5, [.int .u64 ((Wd.hi n).toNat), .int .u64 ((Wd.lo n).toNat), .int .u32 k0.toNat, .int .u32 k1.toNat, .bool false]), (true, g6, [.int .u64 ((Hf.word ⟨n, k0, k1, false⟩).toNat), .int .u64 ((Hf.word ⟨n, k0, k1, true⟩).toNat)]), (L 6, g7, (cond (L 7) [.int .u64 ((Hf.word ⟨n, k0, k1, false⟩).toNat), .int .u64 ((Hf.word ⟨n, k0, k1, true⟩).toNat)] [.int .u64 0, .int .u64 0]))] []; rw [f7]; exact H)⟩⟩
          · intro L A w up hun hd F ⟨g7, p6, H⟩
            have f7 : L 7 = false := up 7 3 rfl hun
            rw [f7] at H
            have F := Sx.Fr.to F (kv' := [(40, .agg #[.int .u64 ((Wd.hi n).toNat), .int .u64 ((Wd.lo n).toNat), .int .u32 k0.toNat, .int .u32 k1.toNat, .bool false])]) ⟨rfl, trivial⟩
            refine Sx.step_on rfl (Sx.d_call (vs := [.agg #[.int .u64 ((Wd.hi n).toNat), .int .u64 ((Wd.lo n).toNat), .int .u32 k0.toNat, .int .u32 k1.toNat, .bool false]]) (v := .agg #[.int .u64 ((Wd.hi n).toNat), .int .u64 ((Wd.lo n).toNat), .int .u32 k0.toNat, .int .u32 k1.toNat, .bool true]) if_51 F H rfl rfl (hstep_c n k0 k1 false _)) ?_
            rintro xv w' ⟨hx, H⟩
            exact ⟨(fun cv hc => hx.trans (Option.some.inj (Option.some.inj hc))), ⟨g7, (fun h => (Sx.put_ne rfl _).trans (p6 h)), (by show Sx.Own _ _ [(true, g3, [.int .u64 ((Wd.hi n).toNat), .int .u64 ((Wd.lo n).toNat)]), (true, g2, [.int .u64 ((Wd.hi n).toNat), .int .u64 ((Wd.lo n).toNat)]), (true, g1, [.int .u64 ((Wd.hi hc).toNat), .int .u64 ((Wd.lo hc).toNat), .int .u32 k0.toNat, .int .u32 k1.toNat, .bool hb]), (true, g4, [.int .u64 ((Wd.hi n).toNat), .int .u64 ((Wd.lo n).toNat), .int .u32 k0.toNat, .int .u32 k1.toNat, .bool false]), (true, g5, [.int .u64 ((Wd.hi n).toNat), .int .u64 ((Wd.lo n).toNat), .int .u32 k0.toNat, .int .u32 k1.toNat, .bool false]), (true, g6, [.int .u64 ((Hf.word ⟨n, k0, k1, false⟩).toNat), .int .u64 ((Hf.word ⟨n, k0, k1, true⟩).toNat)]), (L 6, g7, (cond (L 7) [.int .u64 ((Hf.word ⟨n, k0, k1, false⟩).toNat), .int .u64 ((Hf.word ⟨n, k0, k1, true⟩).toNat)] [.int .u64 0, .int .u64 0]))] []; rw [f7]; exact H)⟩⟩
          · intro L A w up hun hd F ⟨g7, p6, H⟩
            have f7 : L 7 = false := up 7 4 rfl hun
            rw [f7] at H
            have F := Sx.Fr.to F (kv' := [(41, .agg #[.int .u64 ((Wd.hi n).toNat), .int .u64 ((Wd.lo n).toNat), .int .u32 k0.toNat, .int .u32 k1.toNat, .bool true])]) ⟨rfl, trivial⟩
            refine Sx.step_on rfl (Sx.d_call (vs := [.agg #[.int .u64 ((Wd.hi n).toNat), .int .u64 ((Wd.lo n).toNat), .int .u32 k0.toNat, .int .u32 k1.toNat, .bool true]]) (v := .int .u64 ((Hf.word ⟨n, k0, k1, true⟩).toNat)) if_50 F H rfl rfl (hword_c n k0 k1 true _)) ?_
            rintro xv w' ⟨hx, H⟩
            exact ⟨(fun cv hc => hx.trans (Option.some.inj (Option.some.inj hc))), ⟨g7, (fun h => (Sx.put_ne rfl _).trans (p6 h)), (by show Sx.Own _ _ [(true, g3, [.int .u64 ((Wd.hi n).toNat), .int .u64 ((Wd.lo n).toNat)]), (true, g2, [.int .u64 ((Wd.hi n).toNat), .int .u64 ((Wd.lo n).toNat)]), (true, g1, [.int .u64 ((Wd.hi hc).toNat), .int .u64 ((Wd.lo hc).toNat), .int .u32 k0.toNat, .int .u32 k1.toNat, .bool hb]), (true, g4, [.int .u64 ((Wd.hi n).toNat), .int .u64 ((Wd.lo n).toNat), .int .u32 k0.toNat, .int .u32 k1.toNat, .bool false]), (true, g5, [.int .u64 ((Wd.hi n).toNat), .int .u64 ((Wd.lo n).toNat), .int .u32 k0.toNat, .int .u32 k1.toNat, .bool false]), (true, g6, [.int .u64 ((Hf.word ⟨n, k0, k1, false⟩).toNat), .int .u64 ((Hf.word ⟨n, k0, k1, true⟩).toNat)]), (L 6, g7, (cond (L 7) [.int .u64 ((Hf.word ⟨n, k0, k1, false⟩).toNat), .int .u64 ((Hf.word ⟨n, k0, k1, true⟩).toNat)] [.int .u64 0, .int .u64 0]))] []; rw [f7]; exact H)⟩⟩
          · intro L A w up hun hd F ⟨g7, p6, H⟩
            have f7 : L 7 = false := up 7 5 rfl hun
            rw [f7] at H
            have F := Sx.Fr.to F (kv' := [(39, .int .u64 ((Hf.word ⟨n, k0, k1, false⟩).toNat)), (42, .int .u64 ((Hf.word ⟨n, k0, k1, true⟩).toNat))]) ⟨rfl, rfl, trivial⟩
            refine Sx.step_on rfl (Sx.d_build (qs := #[(0, .int .u64 ((Hf.word ⟨n, k0, k1, false⟩).toNat)), (1, .int .u64 ((Hf.word ⟨n, k0, k1, true⟩).toNat))]) (v := .agg #[.int .u64 ((Hf.word ⟨n, k0, k1, false⟩).toNat), .int .u64 ((Hf.word ⟨n, k0, k1, true⟩).toNat)]) F rfl rfl (by kernel_rfl)) ?_
            rintro xv w' ⟨hx, rfl⟩
            exact ⟨(fun cv hc => hx.trans (Option.some.inj (Option.some.inj hc))), ⟨g7, (fun h => (Sx.put_ne rfl _).trans (p6 h)), (by show Sx.Own _ _ [(true, g3, [.int .u64 ((Wd.hi n).toNat), .int .u64 ((Wd.lo n).toNat)]), (true, g2, [.int .u64 ((Wd.hi n).toNat), .int .u64 ((Wd.lo n).toNat)]), (true, g1, [.int .u64 ((Wd.hi hc).toNat), .int .u64 ((Wd.lo hc).toNat), .int .u32 k0.toNat, .int .u32 k1.toNat, .bool hb]), (true, g4, [.int .u64 ((Wd.hi n).toNat), .int .u64 ((Wd.lo n).toNat), .int .u32 k0.toNat, .int .u32 k1.toNat, .bool false]), (true, g5, [.int .u64 ((Wd.hi n).toNat), .int .u64 ((Wd.lo n).toNat), .int .u32 k0.toNat, .int .u32 k1.toNat, .bool false]), (true, g6, [.int .u64 ((Hf.word ⟨n, k0, k1, false⟩).toNat), .int .u64 ((Hf.word ⟨n, k0, k1, true⟩).toNat)]), (L 6, g7, (cond (L 7) [.int .u64 ((Hf.word ⟨n, k0, k1, false⟩).toNat), .int .u64 ((Hf.word ⟨n, k0, k1, true⟩).toNat)] [.int .u64 0, .int .u64 0]))] []; rw [f7]; exact H)⟩⟩
          · intro L A w up hun hd F ⟨g7, p6, H⟩
            have f6 : L 6 = false := hun
            have f7 : L 7 = false := up 7 6 rfl hun
            rw [f6, f7] at H
            have F := Sx.Fr.to F (kv' := []) trivial
            refine Sx.step_on rfl (Sx.d_alloc_at H rfl 6 [.int .u64 0, .int .u64 0] zero_101) ?_
            rintro xv w' ⟨g', hx, H⟩
            exact ⟨(fun cv hc => by have h := Option.some.inj hc; cases h), ⟨g', (fun _ => (Sx.put_same F (by decide) _).trans hx), (by show Sx.Own _ _ [(true, g3, [.int .u64 ((Wd.hi n).toNat), .int .u64 ((Wd.lo n).toNat)]), (true, g2, [.int .u64 ((Wd.hi n).toNat), .int .u64 ((Wd.lo n).toNat)]), (true, g1, [.int .u64 ((Wd.hi hc).toNat), .int .u64 ((Wd.lo hc).toNat), .int .u32 k0.toNat, .int .u32 k1.toNat, .bool hb]), (true, g4, [.int .u64 ((Wd.hi n).toNat), .int .u64 ((Wd.lo n).toNat), .int .u32 k0.toNat, .int .u32 k1.toNat, .bool false]), (true, g5, [.int .u64 ((Wd.hi n).toNat), .int .u64 ((Wd.lo n).toNat), .int .u32 k0.toNat, .int .u32 k1.toNat, .bool false]), (true, g6, [.int .u64 ((Hf.word ⟨n, k0, k1, false⟩).toNat), .int .u64 ((Hf.word ⟨n, k0, k1, true⟩).toNat)]), (true, g', (cond (L 7) [.int .u64 ((Hf.word ⟨n, k0, k1, false⟩).toNat), .int .u64 ((Hf.word ⟨n, k0, k1, true⟩).toNat)] [.int .u64 0, .int .u64 0]))] []; rw [f7]; exact H)⟩⟩
          · intro L A w up hun hd F ⟨g7, p6, H⟩
            have t6 : L 6 = true := hd 6 rfl
            have f7 : L 7 = false := hun
            rw [t6, f7] at H
            have F := Sx.Fr.to F (kv' := [(43, .agg #[.int .u64 ((Hf.word ⟨n, k0, k1, false⟩).toNat), .int .u64 ((Hf.word ⟨n, k0, k1, true⟩).toNat)])]) ⟨rfl, trivial⟩
            have F := Sx.Fr.add F (p6 t6)
            refine Sx.step_on rfl (Sx.d_store (i := 6) (xs := [.int .u64 ((Hf.word ⟨n, k0, k1, false⟩).toNat), .int .u64 ((Hf.word ⟨n, k0, k1, true⟩).toNat)]) (us := [.int .u64 ((Hf.word ⟨n, k0, k1, false⟩).toNat), .int .u64 ((Hf.word ⟨n, k0, k1, true⟩).toNat)]) sz_101 F H rfl rfl rfl rfl rfl rfl rfl (Nat.le_of_ble_eq_true rfl) rfl) ?_
            intro xv w' H
            exact ⟨(fun cv hc => by have h := Option.some.inj hc; cases h), ⟨g7, p6, (by show Sx.Own _ _ [(true, g3, [.int .u64 ((Wd.hi n).toNat), .int .u64 ((Wd.lo n).toNat)]), (true, g2, [.int .u64 ((Wd.hi n).toNat), .int .u64 ((Wd.lo n).toNat)]), (true, g1, [.int .u64 ((Wd.hi hc).toNat), .int .u64 ((Wd.lo hc).toNat), .int .u32 k0.toNat, .int .u32 k1.toNat, .bool hb]), (true, g4, [.int .u64 ((Wd.hi n).toNat), .int .u64 ((Wd.lo n).toNat), .int .u32 k0.toNat, .int .u32 k1.toNat, .bool false]), (true, g5, [.int .u64 ((Wd.hi n).toNat), .int .u64 ((Wd.lo n).toNat), .int .u32 k0.toNat, .int .u32 k1.toNat, .bool false]), (true, g6, [.int .u64 ((Hf.word ⟨n, k0, k1, false⟩).toNat), .int .u64 ((Hf.word ⟨n, k0, k1, true⟩).toNat)]), (L 6, g7, (cond (true) [.int .u64 ((Hf.word ⟨n, k0, k1, false⟩).toNat), .int .u64 ((Hf.word ⟨n, k0, k1, true⟩).toNat)] [.int .u64 0, .int .u64 0]))] []; rw [t6]; exact H)⟩⟩
        · intro L A w hL F ⟨g7, p6, H⟩
          have t6 : L 6 = true := hL 6 rfl
          have t7 : L 7 = true := hL 7 rfl
          rw [t6, t7] at H
          have F := Sx.Fr.add F (p6 t6)
          have F := Sx.Fr.to F (kv' := [(0, .agg #[.int .u64 ((Wd.hi hc).toNat), .int .u64 ((Wd.lo hc).toNat), .int .u32 k0.toNat, .int .u32 k1.toNat, .bool hb]), (1, .agg #[.int .u64 ((Wd.hi n).toNat), .int .u64 ((Wd.lo n).toNat)]), (2, .agg #[.int .u64 ((Wd.hi n).toNat), .int .u64 ((Wd.lo n).toNat)]), (3, .pointer (some ⟨g1, 0, none⟩)), (4, .pointer (some ⟨g2, 0, none⟩)), (5, .pointer (some ⟨g3, 0, none⟩)), (6, .bool false), (11, .bool true), (12, .bool false), (23, .bool false), (7, .pointer (some ⟨g4, 0, none⟩)), (8, .pointer (some ⟨g5, 0, none⟩)), (9, .pointer (some ⟨g6, 0, none⟩)), (10, .pointer (some ⟨g7, 0, none⟩))]) ⟨rfl, rfl, rfl, rfl, rfl, rfl, rfl, rfl, rfl, rfl, rfl, rfl, rfl, rfl, trivial⟩
          refine hK8 _ _ ?_
          refine Sx.seq (fun K9 hK9 => ?_)
          have F := Sx.Fr.to F (kv' := [(0, .agg #[.int .u64 ((Wd.hi hc).toNat), .int .u64 ((Wd.lo hc).toNat), .int .u32 k0.toNat, .int .u32 k1.toNat, .bool hb]), (1, .agg #[.int .u64 ((Wd.hi n).toNat), .int .u64 ((Wd.lo n).toNat)]), (2, .agg #[.int .u64 ((Wd.hi n).toNat), .int .u64 ((Wd.lo n).toNat)]), (3, .pointer (some ⟨g1, 0, none⟩)), (4, .pointer (some ⟨g2, 0, none⟩)), (5, .pointer (some ⟨g3, 0, none⟩)), (11, .bool true), (12, .bool false), (23, .bool false), (7, .pointer (some ⟨g4, 0, none⟩)), (8, .pointer (some ⟨g5, 0, none⟩)), (9, .pointer (some ⟨g6, 0, none⟩)), (10, .pointer (some ⟨g7, 0, none⟩))]) ⟨rfl, rfl, rfl, rfl, rfl, rfl, rfl, rfl, rfl, rfl, rfl, rfl, rfl, trivial⟩
          refine Sx.drawn F (by kernel_rfl) (by kernel_rfl) (by kernel_rfl) [some (.agg #[.int .u64 ((Hf.word ⟨n, k0, k1, false⟩).toNat), .int .u64 ((Hf.word ⟨n, k0, k1, true⟩).toNat)]), some (.agg #[.int .u64 ((Hf.word ⟨n, k0, k1, false⟩).toNat), .int .u64 ((Hf.word ⟨n, k0, k1, true⟩).toNat)]), some (.bool true), some (.agg #[.int .u64 ((Wd.hi n).toNat), .int .u64 ((Wd.lo n).toNat)]), some (.agg #[.int .u64 ((Wd.hi n).toNat), .int .u64 ((Wd.lo n).toNat)]), some (.bool true), some (.bool true), some (.bool true)] (fun L A w => Sx.Own w0 w [(true, g3, [.int .u64 ((Wd.hi n).toNat), .int .u64 ((Wd.lo n).toNat)]), (true, g2, [.int .u64 ((Wd.hi n).toNat), .int .u64 ((Wd.lo n).toNat)]), (true, g1, [.int .u64 ((Wd.hi hc).toNat), .int .u64 ((Wd.lo hc).toNat), .int .u32 k0.toNat, .int .u32 k1.toNat, .bool hb]), (true, g4, [.int .u64 ((Wd.hi n).toNat), .int .u64 ((Wd.lo n).toNat), .int .u32 k0.toNat, .int .u32 k1.toNat, .bool false]), (true, g5, [.int .u64 ((Wd.hi n).toNat), .int .u64 ((Wd.lo n).toNat), .int .u32 k0.toNat, .int .u32 k1.toNat, .bool false]), (true, g6, [.int .u64 ((Hf.word ⟨n, k0, k1, false⟩).toNat), .int .u64 ((Hf.word ⟨n, k0, k1, true⟩).toNat)]), (true, g7, [.int .u64 ((Hf.word ⟨n, k0, k1, false⟩).toNat), .int .u64 ((Hf.word ⟨n, k0, k1, true⟩).toNat)])] []) H.drew ?_ ?_
          · refine ⟨?_, ?_, ?_, ?_, ?_, ?_, ?_, ?_, trivial⟩
            · intro L A w up hun hd F H
              have F := Sx.Fr.to F (kv' := [(9, .pointer (some ⟨g6, 0, none⟩))]) ⟨rfl, trivial⟩
              refine Sx.step_on rfl (Sx.d_load (i := 5) (xs := [.int .u64 ((Hf.word ⟨n, k0, k1, false⟩).toNat), .int .u64 ((Hf.word ⟨n, k0, k1, true⟩).toNat)]) rw_101 F H rfl rfl rfl rfl rfl) ?_
              rintro xv w' ⟨hx, rfl⟩
              exact ⟨(fun cv hc => hx.trans (Option.some.inj (Option.some.inj hc))), (by show Sx.Own _ _ [(true, g3, [.int .u64 ((Wd.hi n).toNat), .int .u64 ((Wd.lo n).toNat)]), (true, g2, [.int .u64 ((Wd.hi n).toNat), .int .u64 ((Wd.lo n).toNat)]), (true, g1, [.int .u64 ((Wd.hi hc).toNat), .int .u64 ((Wd.lo hc).toNat), .int .u32 k0.toNat, .int .u32 k1.toNat, .bool hb]), (true, g4, [.int .u64 ((Wd.hi n).toNat), .int .u64 ((Wd.lo n).toNat), .int .u32 k0.toNat, .int .u32 k1.toNat, .bool false]), (true, g5, [.int .u64 ((Wd.hi n).toNat), .int .u64 ((Wd.lo n).toNat), .int .u32 k0.toNat, .int .u32 k1.toNat, .bool false]), (true, g6, [.int .u64 ((Hf.word ⟨n, k0, k1, false⟩).toNat), .int .u64 ((Hf.word ⟨n, k0, k1, true⟩).toNat)]), (true, g7, [.int .u64 ((Hf.word ⟨n, k0, k1, false⟩).toNat), .int .u64 ((Hf.word ⟨n, k0, k1, true⟩).toNat)])] []; exact H)⟩
            · intro L A w up hun hd F H
              have F := Sx.Fr.to F (kv' := [(10, .pointer (some ⟨g7, 0, none⟩))]) ⟨rfl, trivial⟩
              refine Sx.step_on rfl (Sx.d_load (i := 6) (xs := [.int .u64 ((Hf.word ⟨n, k0, k1, false⟩).toNat), .int .u64 ((Hf.word ⟨n, k0, k1, true⟩).toNat)]) rw_101 F H rfl rfl rfl rfl rfl) ?_
              rintro xv w' ⟨hx, rfl⟩
              exact ⟨(fun cv hc => hx.trans (Option.some.inj (Option.some.inj hc))), (by show Sx.Own _ _ [(true, g3, [.int .u64 ((Wd.hi n).toNat), .int .u64 ((Wd.lo n).toNat)]), (true, g2, [.int .u64 ((Wd.hi n).toNat), .int .u64 ((Wd.lo n).toNat)]), (true, g1, [.int .u64 ((Wd.hi hc).toNat), .int .u64 ((Wd.lo hc).toNat), .int .u32 k0.toNat, .int .u32 k1.toNat, .bool hb]), (true, g4, [.int .u64 ((Wd.hi n).toNat), .int .u64 ((Wd.lo n).toNat), .int .u32 k0.toNat, .int .u32 k1.toNat, .bool false]), (true, g5, [.int .u64 ((Wd.hi n).toNat), .int .u64 ((Wd.lo n).toNat), .int .u32 k0.toNat, .int .u32 k1.toNat, .bool false]), (true, g6, [.int .u64 ((Hf.word ⟨n, k0, k1, false⟩).toNat), .int .u64 ((Hf.word ⟨n, k0, k1, true⟩).toNat)]), (true, g7, [.int .u64 ((Hf.word ⟨n, k0, k1, false⟩).toNat), .int .u64 ((Hf.word ⟨n, k0, k1, true⟩).toNat)])] []; exact H)⟩
            · intro L A w up hun hd F H
              have F := Sx.Fr.to F (kv' := [(44, .agg #[.int .u64 ((Hf.word ⟨n, k0, k1, false⟩).toNat), .int .u64 ((Hf.word ⟨n, k0, k1, true⟩).toNat)]), (45, .agg #[.int .u64 ((Hf.word ⟨n, k0, k1, false⟩).toNat), .int .u64 ((Hf.word ⟨n, k0, k1, true⟩).toNat)])]) ⟨rfl, rfl, trivial⟩
              refine Sx.step_on rfl (Sx.d_bin (v := .bool true) F rfl rfl rfl (Sx.i_eq2 (decide_eq_true ⟨rfl, rfl⟩))) ?_
              rintro xv w' ⟨hx, rfl⟩
              exact ⟨(fun cv hc => hx.trans (Option.some.inj (Option.some.inj hc))), (by show Sx.Own _ _ [(true, g3, [.int .u64 ((Wd.hi n).toNat), .int .u64 ((Wd.lo n).toNat)]), (true, g2, [.int .u64 ((Wd.hi n).toNat), .int .u64 ((Wd.lo n).toNat)]), (true, g1, [.int .u64 ((Wd.hi hc).toNat), .int .u64 ((Wd.lo hc).toNat), .int .u32 k0.toNat, .int .u32 k1.toNat, .bool hb]), (true, g4, [.int .u64 ((Wd.hi n).toNat), .int .u64 ((Wd.lo n).toNat), .int .u32 k0.toNat, .int .u32 k1.toNat, .bool false]), (true, g5, [.int .u64 ((Wd.hi n).toNat), .int .u64 ((Wd.lo n).toNat), .int .u32 k0.toNat, .int .u32 k1.toNat, .bool false]), (true, g6, [.int .u64 ((Hf.word ⟨n, k0, k1, false⟩).toNat), .int .u64 ((Hf.word ⟨n, k0, k1, true⟩).toNat)]), (true, g7, [.int .u64 ((Hf.word ⟨n, k0, k1, false⟩).toNat), .int .u64 ((Hf.word ⟨n, k0, k1, true⟩).toNat)])] []; exact H)⟩
            · intro L A w up hun hd F H
              have F := Sx.Fr.to F (kv' := [(4, .pointer (some ⟨g2, 0, none⟩))]) ⟨rfl, trivial⟩
              refine Sx.step_on rfl (Sx.d_load (i := 1) (xs := [.int .u64 ((Wd.hi n).toNat), .int .u64 ((Wd.lo n).toNat)]) rw_24 F H rfl rfl rfl rfl rfl) ?_
              rintro xv w' ⟨hx, rfl⟩
              exact ⟨(fun cv hc => hx.trans (Option.some.inj (Option.some.inj hc))), (by show Sx.Own _ _ [(true, g3, [.int .u64 ((Wd.hi n).toNat), .int .u64 ((Wd.lo n).toNat)]), (true, g2, [.int .u64 ((Wd.hi n).toNat), .int .u64 ((Wd.lo n).toNat)]), (true, g1, [.int .u64 ((Wd.hi hc).toNat), .int .u64 ((Wd.lo hc).toNat), .int .u32 k0.toNat, .int .u32 k1.toNat, .bool hb]), (true, g4, [.int .u64 ((Wd.hi n).toNat), .int .u64 ((Wd.lo n).toNat), .int .u32 k0.toNat, .int .u32 k1.toNat, .bool false]), (true, g5, [.int .u64 ((Wd.hi n).toNat), .int .u64 ((Wd.lo n).toNat), .int .u32 k0.toNat, .int .u32 k1.toNat, .bool false]), (true, g6, [.int .u64 ((Hf.word ⟨n, k0, k1, false⟩).toNat), .int .u64 ((Hf.word ⟨n, k0, k1, true⟩).toNat)]), (true, g7, [.int .u64 ((Hf.word ⟨n, k0, k1, false⟩).toNat), .int .u64 ((Hf.word ⟨n, k0, k1, true⟩).toNat)])] []; exact H)⟩
            · intro L A w up hun hd F H
              have F := Sx.Fr.to F (kv' := [(5, .pointer (some ⟨g3, 0, none⟩))]) ⟨rfl, trivial⟩
              refine Sx.step_on rfl (Sx.d_load (i := 0) (xs := [.int .u64 ((Wd.hi n).toNat), .int .u64 ((Wd.lo n).toNat)]) rw_24 F H rfl rfl rfl rfl rfl) ?_
              rintro xv w' ⟨hx, rfl⟩
              exact ⟨(fun cv hc => hx.trans (Option.some.inj (Option.some.inj hc))), (by show Sx.Own _ _ [(true, g3, [.int .u64 ((Wd.hi n).toNat), .int .u64 ((Wd.lo n).toNat)]), (true, g2, [.int .u64 ((Wd.hi n).toNat), .int .u64 ((Wd.lo n).toNat)]), (true, g1, [.int .u64 ((Wd.hi hc).toNat), .int .u64 ((Wd.lo hc).toNat), .int .u32 k0.toNat, .int .u32 k1.toNat, .bool hb]), (true, g4, [.int .u64 ((Wd.hi n).toNat), .int .u64 ((Wd.lo n).toNat), .int .u32 k0.toNat, .int .u32 k1.toNat, .bool false]), (true, g5, [.int .u64 ((Wd.hi n).toNat), .int .u64 ((Wd.lo n).toNat), .int .u32 k0.toNat, .int .u32 k1.toNat, .bool false]), (true, g6, [.int .u64 ((Hf.word ⟨n, k0, k1, false⟩).toNat), .int .u64 ((Hf.word ⟨n, k0, k1, true⟩).toNat)]), (true, g7, [.int .u64 ((Hf.word ⟨n, k0, k1, false⟩).toNat), .int .u64 ((Hf.word ⟨n, k0, k1, true⟩).toNat)])] []; exact H)⟩
            · intro L A w up hun hd F H
              have F := Sx.Fr.to F (kv' := [(47, .agg #[.int .u64 ((Wd.hi n).toNat), .int .u64 ((Wd.lo n).toNat)]), (48, .agg #[.int .u64 ((Wd.hi n).toNat), .int .u64 ((Wd.lo n).toNat)])]) ⟨rfl, rfl, trivial⟩
              refine Sx.step_on rfl (Sx.d_bin (v := .bool true) F rfl rfl rfl (Sx.i_eqV (eqb_self _))) ?_
              rintro xv w' ⟨hx, rfl⟩
              exact ⟨(fun cv hc => hx.trans (Option.some.inj (Option.some.inj hc))), (by show Sx.Own _ _ [(true, g3, [.int .u64 ((Wd.hi n).toNat), .int .u64 ((Wd.lo n).toNat)]), (true, g2, [.int .u64 ((Wd.hi n).toNat), .int .u64 ((Wd.lo n).toNat)]), (true, g1, [.int .u64 ((Wd.hi hc).toNat), .int .u64 ((Wd.lo hc).toNat), .int .u32 k0.toNat, .int .u32 k1.toNat, .bool hb]), (true, g4, [.int .u64 ((Wd.hi n).toNat), .int .u64 ((Wd.lo n).toNat), .int .u32 k0.toNat, .int .u32 k1.toNat, .bool false]), (true, g5, [.int .u64 ((Wd.hi n).toNat), .int .u64 ((Wd.lo n).toNat), .int .u32 k0.toNat, .int .u32 k1.toNat, .bool false]), (true, g6, [.int .u64 ((Hf.word ⟨n, k0, k1, false⟩).toNat), .int .u64 ((Hf.word ⟨n, k0, k1, true⟩).toNat)]), (true, g7, [.int .u64 ((Hf.word ⟨n, k0, k1, false⟩).toNat), .int .u64 ((Hf.word ⟨n, k0, k1, true⟩).toNat)])] []; exact H)⟩
            · intro L A w up hun hd F H
              have F := Sx.Fr.to F (kv' := [(46, .bool true), (49, .bool true)]) ⟨rfl, rfl, trivial⟩
              refine Sx.step_on rfl (Sx.d_bin (v := .bool true) F rfl rfl rfl (Sx.b_eq (by simp))) ?_
              rintro xv w' ⟨hx, rfl⟩
              exact ⟨(fun cv hc => hx.trans (Option.some.inj (Option.some.inj hc))), (by show Sx.Own _ _ [(true, g3, [.int .u64 ((Wd.hi n).toNat), .int .u64 ((Wd.lo n).toNat)]), (true, g2, [.int .u64 ((Wd.hi n).toNat), .int .u64 ((Wd.lo n).toNat)]), (true, g1, [.int .u64 ((Wd.hi hc).toNat), .int .u64 ((Wd.lo hc).toNat), .int .u32 k0.toNat, .int .u32 k1.toNat, .bool hb]), (true, g4, [.int .u64 ((Wd.hi n).toNat), .int .u64 ((Wd.lo n).toNat), .int .u32 k0.toNat, .int .u32 k1.toNat, .bool false]), (true, g5, [.int .u64 ((Wd.hi n).toNat), .int .u64 ((Wd.lo n).toNat), .int .u32 k0.toNat, .int .u32 k1.toNat, .bool false]), (true, g6, [.int .u64 ((Hf.word ⟨n, k0, k1, false⟩).toNat), .int .u64 ((Hf.word ⟨n, k0, k1, true⟩).toNat)]), (true, g7, [.int .u64 ((Hf.word ⟨n, k0, k1, false⟩).toNat), .int .u64 ((Hf.word ⟨n, k0, k1, true⟩).toNat)])] []; exact H)⟩
            · intro L A w up hun hd F H
              have F := Sx.Fr.to F (kv' := [(50, .bool true)]) ⟨rfl, trivial⟩
              refine Sx.step_on rfl (Sx.d_move F (Or.inr rfl) rfl) ?_
              rintro xv w' ⟨hx, rfl⟩
              exact ⟨(fun cv hc => hx.trans (Option.some.inj (Option.some.inj hc))), (by show Sx.Own _ _ [(true, g3, [.int .u64 ((Wd.hi n).toNat), .int .u64 ((Wd.lo n).toNat)]), (true, g2, [.int .u64 ((Wd.hi n).toNat), .int .u64 ((Wd.lo n).toNat)]), (true, g1, [.int .u64 ((Wd.hi hc).toNat), .int .u64 ((Wd.lo hc).toNat), .int .u32 k0.toNat, .int .u32 k1.toNat, .bool hb]), (true, g4, [.int .u64 ((Wd.hi n).toNat), .int .u64 ((Wd.lo n).toNat), .int .u32 k0.toNat, .int .u32 k1.toNat, .bool false]), (true, g5, [.int .u64 ((Wd.hi n).toNat), .int .u64 ((Wd.lo n).toNat), .int .u32 k0.toNat, .int .u32 k1.toNat, .bool false]), (true, g6, [.int .u64 ((Hf.word ⟨n, k0, k1, false⟩).toNat), .int .u64 ((Hf.word ⟨n, k0, k1, true⟩).toNat)]), (true, g7, [.int .u64 ((Hf.word ⟨n, k0, k1, false⟩).toNat), .int .u64 ((Hf.word ⟨n, k0, k1, true⟩).toNat)])] []; exact H)⟩
          · intro L A w hL F H
            have F := Sx.Fr.to F (kv' := [(0, .agg #[.int .u64 ((Wd.hi hc).toNat), .int .u64 ((Wd.lo hc).toNat), .int .u32 k0.toNat, .int .u32 k1.toNat, .bool hb]), (1, .agg #[.int .u64 ((Wd.hi n).toNat), .int .u64 ((Wd.lo n).toNat)]), (2, .agg #[.int .u64 ((Wd.hi n).toNat), .int .u64 ((Wd.lo n).toNat)]), (3, .pointer (some ⟨g1, 0, none⟩)), (4, .pointer (some ⟨g2, 0, none⟩)), (5, .pointer (some ⟨g3, 0, none⟩)), (11, .bool true), (12, .bool false), (23, .bool false), (7, .pointer (some ⟨g4, 0, none⟩)), (8, .pointer (some ⟨g5, 0, none⟩)), (9, .pointer (some ⟨g6, 0, none⟩)), (10, .pointer (some ⟨g7, 0, none⟩)), (6, .bool true)]) ⟨rfl, rfl, rfl, rfl, rfl, rfl, rfl, rfl, rfl, rfl, rfl, rfl, rfl, rfl, trivial⟩
            refine hK9 _ _ ?_
            refine wp_ret ?_
            try dsimp only [Exit.then, Exit.inBlock, Exit.jump]
            refine Sx.ret1 F Try.results14 (Sx.res_tmp (v := .bool true) F rfl) ⟨?_, H.below⟩
            rfl
theorem halfApart_walk (c : BitVec 128) (k0 k1 : BitVec 32) (b : Bool) (n m : BitVec 128) (w : World) : Calls Try.prog 14 #[.agg #[.int .u64 (Wd.hi c).toNat, .int .u64 (Wd.lo c).toNat, .int .u32 k0.toNat, .int .u32 k1.toNat, .bool b], .agg #[.int .u64 (Wd.hi n).toNat, .int .u64 (Wd.lo n).toNat], .agg #[.int .u64 (Wd.hi m).toNat, .int .u64 (Wd.lo m).toNat]] w fun e w' => e = .returned (.bool true) ∧ Below w.heap.size w w' := by
  by_cases hne : n = m
  · subst hne; exact halfApart_eq c n k0 k1 b w
  · exact halfApart_ne c n m k0 k1 b hne w
end Go.Proofs.Ytpbdffmgendboaa
