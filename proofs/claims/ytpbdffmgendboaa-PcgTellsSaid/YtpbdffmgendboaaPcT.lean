/- PcgTells walked. -/
import Derived.Test.YtpbdffmgendboaaR10
import Derived.Test.YtpbdffmgendboaaPcA
namespace Go.Proofs.Ytpbdffmgendboaa
open Go Go.RowKit
theorem Pc.jump_its (ss si : BitVec 128) : ∀ n : Nat, n < 340282366920938463463374607431768211456 → Pc.its si n ss = (Af.at' (Af.pow (Pc.map ⟨ss, si⟩) n) ss)
  | 0, _ => by show ss = Af.at' Af.one ss; simp [Af.at', Af.one]
  | n + 1, h => by
    show (Pc.step ⟨Pc.its si n ss, si⟩).s = Af.at' (Af.thn (Af.pow (Pc.map ⟨ss, si⟩) n) (Pc.map ⟨ss, si⟩)) ss
    rw [Af.at_thn, ← Pc.jump_its ss si n (by omega)]; rfl
theorem Pc.jump_few (ss si : BitVec 128) (m : Nat) (hm : m < 18446744073709551616) : (Pc.jump ⟨ss, si⟩ (Wd.of (BitVec.ofNat 64 m))).s = Pc.its si m ss := by
  rw [Pc.jump_its ss si m (by omega)]
  show Af.at' (Af.pow (Pc.map ⟨ss, si⟩) (Wd.of (BitVec.ofNat 64 m)).toNat) ss = _
  rw [show (Wd.of (BitVec.ofNat 64 m)).toNat = m from by rw [Wd.of, Wd.mk_nat, BitVec.toNat_ofNat]; simp; omega]
theorem Pc.lo_bit (si : BitVec 128) : (((Wd.lo si % 2#64).toNat : Int) == 1) = Af.odd si := by
  have e : (Wd.lo si % 2#64).toNat = si.toNat % 2 := by
    rw [BitVec.toNat_umod, Wd.lo_nat, show (2#64 : BitVec 64).toNat = 2 from rfl]; omega
  rw [e, Af.odd_nat, Bool.eq_iff_iff]
  simp only [beq_iff_eq, decide_eq_true_eq]
  omega
set_option maxRecDepth 100000 in
theorem pcgTells_no (ss si : BitVec 128) (nn : Nat) (hnn : nn < 65536) (many : Int) (ho : Af.odd si = false) (w0 : World) : Calls Try.prog 7 #[.agg #[.int .u64 ((Wd.hi ss).toNat), .int .u64 ((Wd.lo ss).toNat), .int .u64 ((Wd.hi si).toNat), .int .u64 ((Wd.lo si).toNat)], .int .i64 many, .int .u16 nn] w0 fun e w' => e = .returned (.bool true) ∧ Below w0.heap.size w0 w' := by
  obtain ⟨m, hm⟩ : ∃ m, nn % 300 = m := ⟨_, rfl⟩
  have hm1 : m < 300 := by omega
  refine Sx.enter (args := [.agg #[.int .u64 ((Wd.hi ss).toNat), .int .u64 ((Wd.lo ss).toNat), .int .u64 ((Wd.hi si).toNat), .int .u64 ((Wd.lo si).toNat)], .int .i64 many, .int .u16 nn]) Try.func7 rfl Try.ntmps7 (Nat.le_of_ble_eq_true rfl) (fun A F => ?_)
  have H := Sx.Own.start w0
  refine Sx.seq (fun K1 hK1 => ?_)
  refine Sx.plain ?_
  refine Sx.sb F (Sx.d_box F H rfl rfl [.int .u64 ((Wd.hi ss).toNat), .int .u64 ((Wd.lo ss).toNat), .int .u64 ((Wd.hi si).toNat), .int .u64 ((Wd.lo si).toNat)] rfl) (Sx.wanted_none rfl _) rfl (by decide) (fun g1 A w F H => ?_)
  refine Sx.sv F (Sx.d_move F (Or.inr rfl) rfl) (Sx.wanted_none rfl _) rfl (by decide) (fun A F => ?_)
  refine Sx.nil ?_
  refine hK1 _ _ ?_
  refine Sx.seq (fun K2 hK2 => ?_)
  refine Sx.seq (fun K3 hK3 => ?_)
  refine Sx.plain ?_
  refine Sx.sw F (Sx.d_call (vs := []) (v := .bool true) if_32 F H rfl rfl (awake10_c _)) (Sx.wanted_none rfl _) rfl (by decide) (fun A w F H => ?_)
  refine Sx.sv F (Sx.d_un (v := .bool false) F rfl rfl rfl) (Sx.wanted_none rfl _) rfl (by decide) (fun A F => ?_)
  refine Sx.nil ?_
  refine hK3 _ _ ?_
  refine Sx.condF F rfl ?_
  refine wp_skip ?_
  refine hK2 _ _ ?_
  refine Sx.seq (fun K4 hK4 => ?_)
  refine Sx.seq (fun K5 hK5 => ?_)
  have F := Sx.Fr.to F (kv' := [(0, .agg #[.int .u64 ((Wd.hi ss).toNat), .int .u64 ((Wd.lo ss).toNat), .int .u64 ((Wd.hi si).toNat), .int .u64 ((Wd.lo si).toNat)]), (1, .int .i64 many), (2, .int .u16 nn), (3, .pointer (some ⟨g1, 0, none⟩)), (6, .bool false), (14, .bool true), (15, .bool false)]) ⟨rfl, rfl, rfl, rfl, rfl, rfl, rfl, trivial⟩
  refine Sx.drawn F (by kernel_rfl) (by kernel_rfl) (by kernel_rfl) [some (.agg #[.int .u64 ((Wd.hi ss).toNat), .int .u64 ((Wd.lo ss).toNat), .int .u64 ((Wd.hi si).toNat), .int .u64 ((Wd.lo si).toNat)]), some (.int .u64 ((Pc.word ss).toNat)), some (.agg #[.int .u64 ((Wd.hi ss).toNat), .int .u64 ((Wd.lo ss).toNat), .int .u64 ((Wd.hi si).toNat), .int .u64 ((Wd.lo si).toNat)]), some (.agg #[.int .u64 ((Wd.hi ss).toNat), .int .u64 ((Wd.lo ss).toNat), .int .u64 ((Wd.hi si).toNat), .int .u64 ((Wd.lo si).toNat)]), some (.int .u64 ((Pc.word ss).toNat)), some (.bool false), some (.bool false), some (.agg #[.int .u64 ((Wd.hi ss).toNat), .int .u64 ((Wd.lo ss).toNat), .int .u64 ((Wd.hi si).toNat), .int .u64 ((Wd.lo si).toNat)]), some (.agg #[.int .u64 ((Wd.hi ((Pc.step ⟨ss, si⟩).s)).toNat), .int .u64 ((Wd.lo ((Pc.step ⟨ss, si⟩).s)).toNat), .int .u64 ((Wd.hi si).toNat), .int .u64 ((Wd.lo si).toNat)]), some (.agg #[.int .u64 ((Wd.hi ((Pc.step ⟨ss, si⟩).s)).toNat), .int .u64 ((Wd.lo ((Pc.step ⟨ss, si⟩).s)).toNat), .int .u64 ((Wd.hi si).toNat), .int .u64 ((Wd.lo si).toNat)]), some (.agg #[.int .u64 ((Wd.hi ss).toNat), .int .u64 ((Wd.lo ss).toNat), .int .u64 ((Wd.hi si).toNat), .int .u64 ((Wd.lo si).toNat)]), some (.agg #[.int .u64 ((Wd.hi ss).toNat), .int .u64 ((Wd.lo ss).toNat), .int .u64 ((Wd.hi si).toNat), .int .u64 ((Wd.lo si).toNat)]), some (.agg #[.int .u64 ((Wd.hi ((Pc.step ⟨ss, si⟩).s)).toNat), .int .u64 ((Wd.lo ((Pc.step ⟨ss, si⟩).s)).toNat), .int .u64 ((Wd.hi si).toNat), .int .u64 ((Wd.lo si).toNat)]), some (.bool false), some (.bool false), some (.bool false), some (.agg #[.int .u64 ((Wd.hi ss).toNat), .int .u64 ((Wd.lo ss).toNat), .int .u64 ((Wd.hi si).toNat), .int .u64 ((Wd.lo si).toNat)]), some (.bool false), some (.pointer (some ⟨g1, 2, none⟩)), some (.pointer (some ⟨g1, 3, none⟩)), some (.int .u64 ((Wd.lo si).toNat)), some (.int .u64 (((Wd.lo si) % 2#64).toNat)), some (.bool false), some (.bool false), some (.bool false)] (fun L A w => Sx.Own w0 w [(true, g1, [.int .u64 ((Wd.hi ss).toNat), .int .u64 ((Wd.lo ss).toNat), .int .u64 ((Wd.hi si).toNat), .int .u64 ((Wd.lo si).toNat)])] []) H.drew ?_ ?_
  · refine ⟨?_, ?_, ?_, ?_, ?_, ?_, ?_, ?_, ?_, ?_, ?_, ?_, ?_, ?_, ?_, ?_, ?_, ?_, ?_, ?_, ?_, ?_, ?_, ?_, ?_, trivial⟩
    · show Sx.StepAt _ _ _ _ _ _ _ 0
      intro L A w up hun hd F H
      have F := Sx.Fr.to F (kv' := [(3, .pointer (some ⟨g1, 0, none⟩))]) ⟨rfl, trivial⟩
      refine Sx.step_on rfl (Sx.d_load (i := 0) (xs := [.int .u64 ((Wd.hi ss).toNat), .int .u64 ((Wd.lo ss).toNat), .int .u64 ((Wd.hi si).toNat), .int .u64 ((Wd.lo si).toNat)]) rw_57 F H rfl rfl rfl rfl rfl) ?_
      rintro xv w' ⟨hx, rfl⟩
      exact ⟨(fun cv hc => hx.trans (Option.some.inj (Option.some.inj hc))), H⟩
    · show Sx.StepAt _ _ _ _ _ _ _ 1
      intro L A w up hun hd F H
      have F := Sx.Fr.to F (kv' := [(16, .agg #[.int .u64 ((Wd.hi ss).toNat), .int .u64 ((Wd.lo ss).toNat), .int .u64 ((Wd.hi si).toNat), .int .u64 ((Wd.lo si).toNat)])]) ⟨rfl, trivial⟩
      refine Sx.step_on rfl (Sx.d_call (vs := [.agg #[.int .u64 ((Wd.hi ss).toNat), .int .u64 ((Wd.lo ss).toNat), .int .u64 ((Wd.hi si).toNat), .int .u64 ((Wd.lo si).toNat)]]) (v := .int .u64 ((Pc.word ss).toNat)) if_33 F H rfl rfl (pword_c ss si _)) ?_
      rintro xv w' ⟨hx, H⟩
      exact ⟨(fun cv hc => hx.trans (Option.some.inj (Option.some.inj hc))), H⟩
    · show Sx.StepAt _ _ _ _ _ _ _ 2
      intro L A w up hun hd F H
      have F := Sx.Fr.to F (kv' := [(3, .pointer (some ⟨g1, 0, none⟩))]) ⟨rfl, trivial⟩
      refine Sx.step_on rfl (Sx.d_load (i := 0) (xs := [.int .u64 ((Wd.hi ss).toNat), .int .u64 ((Wd.lo ss).toNat), .int .u64 ((Wd.hi si).toNat), .int .u64 ((Wd.lo si).toNat)]) rw_57 F H rfl rfl rfl rfl rfl) ?_
      rintro xv w' ⟨hx, rfl⟩
      exact ⟨(fun cv hc => hx.trans (Option.some.inj (Option.some.inj hc))), H⟩
    · show Sx.StepAt _ _ _ _ _ _ _ 3
      intro L A w up hun hd F H
      have F := Sx.Fr.to F (kv' := [(18, .agg #[.int .u64 ((Wd.hi ss).toNat), .int .u64 ((Wd.lo ss).toNat), .int .u64 ((Wd.hi si).toNat), .int .u64 ((Wd.lo si).toNat)])]) ⟨rfl, trivial⟩
      refine Sx.step_on rfl (Sx.d_call (vs := [.agg #[.int .u64 ((Wd.hi ss).toNat), .int .u64 ((Wd.lo ss).toNat), .int .u64 ((Wd.hi si).toNat), .int .u64 ((Wd.lo si).toNat)]]) (v := .agg #[.int .u64 ((Wd.hi ss).toNat), .int .u64 ((Wd.lo ss).toNat), .int .u64 ((Wd.hi si).toNat), .int .u64 ((Wd.lo si).toNat)]) if_35 F H rfl rfl (own10_c ss si _)) ?_
      rintro xv w' ⟨hx, H⟩
      exact ⟨(fun cv hc => hx.trans (Option.some.inj (Option.some.inj hc))), H⟩
    · show Sx.StepAt _ _ _ _ _ _ _ 4
      intro L A w up hun hd F H
      have F := Sx.Fr.to F (kv' := [(19, .agg #[.int .u64 ((Wd.hi ss).toNat), .int .u64 ((Wd.lo ss).toNat), .int .u64 ((Wd.hi si).toNat), .int .u64 ((Wd.lo si).toNat)])]) ⟨rfl, trivial⟩
      refine Sx.step_on rfl (Sx.d_call (vs := [.agg #[.int .u64 ((Wd.hi ss).toNat), .int .u64 ((Wd.lo ss).toNat), .int .u64 ((Wd.hi si).toNat), .int .u64 ((Wd.lo si).toNat)]]) (v := .int .u64 ((Pc.word ss).toNat)) if_34 F H rfl rfl (rword10_c ss si _)) ?_
      rintro xv w' ⟨hx, H⟩
      exact ⟨(fun cv hc => hx.trans (Option.some.inj (Option.some.inj hc))), H⟩
    · show Sx.StepAt _ _ _ _ _ _ _ 5
      intro L A w up hun hd F H
      have F := Sx.Fr.to F (kv' := [(17, .int .u64 ((Pc.word ss).toNat)), (20, .int .u64 ((Pc.word ss).toNat))]) ⟨rfl, rfl, trivial⟩
      refine Sx.step_on rfl (Sx.d_bin (v := .bool false) F rfl rfl rfl (Sx.i_ne (by simp))) ?_
      rintro xv w' ⟨hx, rfl⟩
      exact ⟨(fun cv hc => hx.trans (Option.some.inj (Option.some.inj hc))), H⟩
    · show Sx.StepAt _ _ _ _ _ _ _ 6
      intro L A w up hun hd F H
      have F := Sx.Fr.to F (kv' := [(21, .bool false)]) ⟨rfl, trivial⟩
      refine Sx.step_on rfl (Sx.d_move F (Or.inl rfl) rfl) ?_
      rintro xv w' ⟨hx, rfl⟩
      exact ⟨(fun cv hc => hx.trans (Option.some.inj (Option.some.inj hc))), H⟩
    · show Sx.StepAt _ _ _ _ _ _ _ 7
      intro L A w up hun hd F H
      have F := Sx.Fr.to F (kv' := [(3, .pointer (some ⟨g1, 0, none⟩)), (22, .bool false)]) ⟨rfl, rfl, trivial⟩
      refine Sx.step_ong rfl (Sx.guard_known (d := 22) (b := false) F rfl rfl) rfl (Sx.d_load (i := 0) (xs := [.int .u64 ((Wd.hi ss).toNat), .int .u64 ((Wd.lo ss).toNat), .int .u64 ((Wd.hi si).toNat), .int .u64 ((Wd.lo si).toNat)]) rw_57 F H rfl rfl rfl rfl rfl) ?_
      rintro xv w' ⟨hx, rfl⟩
      exact ⟨(fun cv hc => hx.trans (Option.some.inj (Option.some.inj hc))), H⟩
    · show Sx.StepAt _ _ _ _ _ _ _ 8
      intro L A w up hun hd F H
      have F := Sx.Fr.to F (kv' := [(23, .agg #[.int .u64 ((Wd.hi ss).toNat), .int .u64 ((Wd.lo ss).toNat), .int .u64 ((Wd.hi si).toNat), .int .u64 ((Wd.lo si).toNat)]), (22, .bool false)]) ⟨rfl, rfl, trivial⟩
      refine Sx.step_ong rfl (Sx.guard_known (d := 22) (b := false) F rfl rfl) rfl (Sx.d_call (vs := [.agg #[.int .u64 ((Wd.hi ss).toNat), .int .u64 ((Wd.lo ss).toNat), .int .u64 ((Wd.hi si).toNat), .int .u64 ((Wd.lo si).toNat)]]) (v := .agg #[.int .u64 ((Wd.hi ((Pc.step ⟨ss, si⟩).s)).toNat), .int .u64 ((Wd.lo ((Pc.step ⟨ss, si⟩).s)).toNat), .int .u64 ((Wd.hi si).toNat), .int .u64 ((Wd.lo si).toNat)]) if_36 F H rfl rfl (pstep_c ss si _)) ?_
      rintro xv w' ⟨hx, H⟩
      exact ⟨(fun cv hc => hx.trans (Option.some.inj (Option.some.inj hc))), H⟩
    · show Sx.StepAt _ _ _ _ _ _ _ 9
      intro L A w up hun hd F H
      have F := Sx.Fr.to F (kv' := [(24, .agg #[.int .u64 ((Wd.hi ((Pc.step ⟨ss, si⟩).s)).toNat), .int .u64 ((Wd.lo ((Pc.step ⟨ss, si⟩).s)).toNat), .int .u64 ((Wd.hi si).toNat), .int .u64 ((Wd.lo si).toNat)]), (22, .bool false)]) ⟨rfl, rfl, trivial⟩
      refine Sx.step_ong rfl (Sx.guard_known (d := 22) (b := false) F rfl rfl) rfl (Sx.d_call (vs := [.agg #[.int .u64 ((Wd.hi ((Pc.step ⟨ss, si⟩).s)).toNat), .int .u64 ((Wd.lo ((Pc.step ⟨ss, si⟩).s)).toNat), .int .u64 ((Wd.hi si).toNat), .int .u64 ((Wd.lo si).toNat)]]) (v := .agg #[.int .u64 ((Wd.hi ((Pc.step ⟨ss, si⟩).s)).toNat), .int .u64 ((Wd.lo ((Pc.step ⟨ss, si⟩).s)).toNat), .int .u64 ((Wd.hi si).toNat), .int .u64 ((Wd.lo si).toNat)]) if_35 F H rfl rfl (own10_c ((Pc.step ⟨ss, si⟩).s) si _)) ?_
      rintro xv w' ⟨hx, H⟩
      exact ⟨(fun cv hc => hx.trans (Option.some.inj (Option.some.inj hc))), H⟩
    · show Sx.StepAt _ _ _ _ _ _ _ 10
      intro L A w up hun hd F H
      have F := Sx.Fr.to F (kv' := [(3, .pointer (some ⟨g1, 0, none⟩)), (22, .bool false)]) ⟨rfl, rfl, trivial⟩
      refine Sx.step_ong rfl (Sx.guard_known (d := 22) (b := false) F rfl rfl) rfl (Sx.d_load (i := 0) (xs := [.int .u64 ((Wd.hi ss).toNat), .int .u64 ((Wd.lo ss).toNat), .int .u64 ((Wd.hi si).toNat), .int .u64 ((Wd.lo si).toNat)]) rw_57 F H rfl rfl rfl rfl rfl) ?_
      rintro xv w' ⟨hx, rfl⟩
      exact ⟨(fun cv hc => hx.trans (Option.some.inj (Option.some.inj hc))), H⟩
    · show Sx.StepAt _ _ _ _ _ _ _ 11
      intro L A w up hun hd F H
      have F := Sx.Fr.to F (kv' := [(26, .agg #[.int .u64 ((Wd.hi ss).toNat), .int .u64 ((Wd.lo ss).toNat), .int .u64 ((Wd.hi si).toNat), .int .u64 ((Wd.lo si).toNat)]), (22, .bool false)]) ⟨rfl, rfl, trivial⟩
      refine Sx.step_ong rfl (Sx.guard_known (d := 22) (b := false) F rfl rfl) rfl (Sx.d_call (vs := [.agg #[.int .u64 ((Wd.hi ss).toNat), .int .u64 ((Wd.lo ss).toNat), .int .u64 ((Wd.hi si).toNat), .int .u64 ((Wd.lo si).toNat)]]) (v := .agg #[.int .u64 ((Wd.hi ss).toNat), .int .u64 ((Wd.lo ss).toNat), .int .u64 ((Wd.hi si).toNat), .int .u64 ((Wd.lo si).toNat)]) if_35 F H rfl rfl (own10_c ss si _)) ?_
      rintro xv w' ⟨hx, H⟩
      exact ⟨(fun cv hc => hx.trans (Option.some.inj (Option.some.inj hc))), H⟩
    · show Sx.StepAt _ _ _ _ _ _ _ 12
      intro L A w up hun hd F H
      have F := Sx.Fr.to F (kv' := [(27, .agg #[.int .u64 ((Wd.hi ss).toNat), .int .u64 ((Wd.lo ss).toNat), .int .u64 ((Wd.hi si).toNat), .int .u64 ((Wd.lo si).toNat)]), (22, .bool false)]) ⟨rfl, rfl, trivial⟩
      refine Sx.step_ong rfl (Sx.guard_known (d := 22) (b := false) F rfl rfl) rfl (Sx.d_call (vs := [.agg #[.int .u64 ((Wd.hi ss).toNat), .int .u64 ((Wd.lo ss).toNat), .int .u64 ((Wd.hi si).toNat), .int .u64 ((Wd.lo si).toNat)]]) (v := .agg #[.int .u64 ((Wd.hi ((Pc.step ⟨ss, si⟩).s)).toNat), .int .u64 ((Wd.lo ((Pc.step ⟨ss, si⟩).s)).toNat), .int .u64 ((Wd.hi si).toNat), .int .u64 ((Wd.lo si).toNat)]) if_37 F H rfl rfl (rstep10_c ss si _)) ?_
      rintro xv w' ⟨hx, H⟩
      exact ⟨(fun cv hc => hx.trans (Option.some.inj (Option.some.inj hc))), H⟩
    · show Sx.StepAt _ _ _ _ _ _ _ 13
      intro L A w up hun hd F H
      have F := Sx.Fr.to F (kv' := [(25, .agg #[.int .u64 ((Wd.hi ((Pc.step ⟨ss, si⟩).s)).toNat), .int .u64 ((Wd.lo ((Pc.step ⟨ss, si⟩).s)).toNat), .int .u64 ((Wd.hi si).toNat), .int .u64 ((Wd.lo si).toNat)]), (28, .agg #[.int .u64 ((Wd.hi ((Pc.step ⟨ss, si⟩).s)).toNat), .int .u64 ((Wd.lo ((Pc.step ⟨ss, si⟩).s)).toNat), .int .u64 ((Wd.hi si).toNat), .int .u64 ((Wd.lo si).toNat)]), (22, .bool false)]) ⟨rfl, rfl, rfl, trivial⟩
      refine Sx.step_ong rfl (Sx.guard_known (d := 22) (b := false) F rfl rfl) rfl (Sx.d_bin (v := .bool false) F rfl rfl rfl (Sx.i_neQ (by rw [show Sx.eqbM ((Pc.step ⟨ss, si⟩).s) si ((Pc.step ⟨ss, si⟩).s) si = true from Sx.eqbM_true rfl rfl]; rfl))) ?_
      rintro xv w' ⟨hx, rfl⟩
      exact ⟨(fun cv hc => hx.trans (Option.some.inj (Option.some.inj hc))), H⟩
    · show Sx.StepAt _ _ _ _ _ _ _ 14
      intro L A w up hun hd F H
      have F := Sx.Fr.to F (kv' := [(22, .bool false), (29, .bool false)]) ⟨rfl, rfl, trivial⟩
      refine Sx.step_on rfl (Sx.d_pickF (v := .bool false) F rfl rfl rfl) ?_
      rintro xv w' ⟨hx, rfl⟩
      exact ⟨(fun cv hc => hx.trans (Option.some.inj (Option.some.inj hc))), H⟩
    · show Sx.StepAt _ _ _ _ _ _ _ 15
      intro L A w up hun hd F H
      have F := Sx.Fr.to F (kv' := [(30, .bool false)]) ⟨rfl, trivial⟩
      refine Sx.step_on rfl (Sx.d_move F (Or.inl rfl) rfl) ?_
      rintro xv w' ⟨hx, rfl⟩
      exact ⟨(fun cv hc => hx.trans (Option.some.inj (Option.some.inj hc))), H⟩
    · show Sx.StepAt _ _ _ _ _ _ _ 16
      intro L A w up hun hd F H
      have F := Sx.Fr.to F (kv' := [(3, .pointer (some ⟨g1, 0, none⟩)), (31, .bool false)]) ⟨rfl, rfl, trivial⟩
      refine Sx.step_ong rfl (Sx.guard_known (d := 31) (b := false) F rfl rfl) rfl (Sx.d_load (i := 0) (xs := [.int .u64 ((Wd.hi ss).toNat), .int .u64 ((Wd.lo ss).toNat), .int .u64 ((Wd.hi si).toNat), .int .u64 ((Wd.lo si).toNat)]) rw_57 F H rfl rfl rfl rfl rfl) ?_
      rintro xv w' ⟨hx, rfl⟩
      exact ⟨(fun cv hc => hx.trans (Option.some.inj (Option.some.inj hc))), H⟩
    · show Sx.StepAt _ _ _ _ _ _ _ 17
      intro L A w up hun hd F H
      have F := Sx.Fr.to F (kv' := [(32, .agg #[.int .u64 ((Wd.hi ss).toNat), .int .u64 ((Wd.lo ss).toNat), .int .u64 ((Wd.hi si).toNat), .int .u64 ((Wd.lo si).toNat)]), (31, .bool false)]) ⟨rfl, rfl, trivial⟩
      refine Sx.step_ong rfl (Sx.guard_known (d := 31) (b := false) F rfl rfl) rfl (Sx.d_call (vs := [.agg #[.int .u64 ((Wd.hi ss).toNat), .int .u64 ((Wd.lo ss).toNat), .int .u64 ((Wd.hi si).toNat), .int .u64 ((Wd.lo si).toNat)]]) (v := .bool false) if_38 F H rfl rfl (Calls.val (pright_c ss si _) rfl (congrArg Value.bool (ho)))) ?_
      rintro xv w' ⟨hx, H⟩
      exact ⟨(fun cv hc => hx.trans (Option.some.inj (Option.some.inj hc))), H⟩
    · show Sx.StepAt _ _ _ _ _ _ _ 18
      intro L A w up hun hd F H
      have F := Sx.Fr.to F (kv' := [(3, .pointer (some ⟨g1, 0, none⟩)), (31, .bool false)]) ⟨rfl, rfl, trivial⟩
      refine Sx.step_ong rfl (Sx.guard_known (d := 31) (b := false) F rfl rfl) rfl (Sx.d_faddr (v := .pointer (some ⟨g1, 2, none⟩)) F rfl rfl (fa_57_1 _ 0 _)) ?_
      rintro xv w' ⟨hx, rfl⟩
      exact ⟨(fun cv hc => hx.trans (Option.some.inj (Option.some.inj hc))), H⟩
    · show Sx.StepAt _ _ _ _ _ _ _ 19
      intro L A w up hun hd F H
      have F := Sx.Fr.to F (kv' := [(34, .pointer (some ⟨g1, 2, none⟩)), (31, .bool false)]) ⟨rfl, rfl, trivial⟩
      refine Sx.step_ong rfl (Sx.guard_known (d := 31) (b := false) F rfl rfl) rfl (Sx.d_faddr (v := .pointer (some ⟨g1, 3, none⟩)) F rfl rfl (fa_24_1 _ 2 _)) ?_
      rintro xv w' ⟨hx, rfl⟩
      exact ⟨(fun cv hc => hx.trans (Option.some.inj (Option.some.inj hc))), H⟩
    · show Sx.StepAt _ _ _ _ _ _ _ 20
      intro L A w up hun hd F H
      have F := Sx.Fr.to F (kv' := [(35, .pointer (some ⟨g1, 3, none⟩)), (31, .bool false)]) ⟨rfl, rfl, trivial⟩
      refine Sx.step_ong rfl (Sx.guard_known (d := 31) (b := false) F rfl rfl) rfl (Sx.d_load1 (i := 0) (v := .int .u64 ((Wd.lo si).toNat)) one_22 F H rfl rfl rfl rfl) ?_
      rintro xv w' ⟨hx, rfl⟩
      exact ⟨(fun cv hc => hx.trans (Option.some.inj (Option.some.inj hc))), H⟩
    · show Sx.StepAt _ _ _ _ _ _ _ 21
      intro L A w up hun hd F H
      have F := Sx.Fr.to F (kv' := [(36, .int .u64 ((Wd.lo si).toNat)), (31, .bool false)]) ⟨rfl, rfl, trivial⟩
      refine Sx.step_ong rfl (Sx.guard_known (d := 31) (b := false) F rfl rfl) rfl (Sx.d_bin (v := .int .u64 (((Wd.lo si) % 2#64).toNat)) F rfl rfl rfl (Sx.i_rem64 (Wd.lo si) 2#64 (by decide))) ?_
      rintro xv w' ⟨hx, rfl⟩
      exact ⟨(fun cv hc => hx.trans (Option.some.inj (Option.some.inj hc))), H⟩
    · show Sx.StepAt _ _ _ _ _ _ _ 22
      intro L A w up hun hd F H
      have F := Sx.Fr.to F (kv' := [(37, .int .u64 (((Wd.lo si) % 2#64).toNat)), (31, .bool false)]) ⟨rfl, rfl, trivial⟩
      refine Sx.step_ong rfl (Sx.guard_known (d := 31) (b := false) F rfl rfl) rfl (Sx.d_bin (v := .bool false) F rfl rfl rfl (Sx.i_eq ((Pc.lo_bit si).trans ho))) ?_
      rintro xv w' ⟨hx, rfl⟩
      exact ⟨(fun cv hc => hx.trans (Option.some.inj (Option.some.inj hc))), H⟩
    · show Sx.StepAt _ _ _ _ _ _ _ 23
      intro L A w up hun hd F H
      have F := Sx.Fr.to F (kv' := [(33, .bool false), (38, .bool false), (31, .bool false)]) ⟨rfl, rfl, rfl, trivial⟩
      refine Sx.step_ong rfl (Sx.guard_known (d := 31) (b := false) F rfl rfl) rfl (Sx.d_bin (v := .bool false) F rfl rfl rfl (Sx.b_ne (by simp))) ?_
      rintro xv w' ⟨hx, rfl⟩
      exact ⟨(fun cv hc => hx.trans (Option.some.inj (Option.some.inj hc))), H⟩
    · show Sx.StepAt _ _ _ _ _ _ _ 24
      intro L A w up hun hd F H
      have F := Sx.Fr.to F (kv' := [(31, .bool false), (39, .bool false)]) ⟨rfl, rfl, trivial⟩
      refine Sx.step_on rfl (Sx.d_pickF (v := .bool false) F rfl rfl rfl) ?_
      rintro xv w' ⟨hx, rfl⟩
      exact ⟨(fun cv hc => hx.trans (Option.some.inj (Option.some.inj hc))), H⟩
  · intro L A w hL F H
    have F := Sx.Fr.to F (kv' := [(0, .agg #[.int .u64 ((Wd.hi ss).toNat), .int .u64 ((Wd.lo ss).toNat), .int .u64 ((Wd.hi si).toNat), .int .u64 ((Wd.lo si).toNat)]), (1, .int .i64 many), (2, .int .u16 nn), (3, .pointer (some ⟨g1, 0, none⟩)), (6, .bool false), (14, .bool true), (15, .bool false), (40, .bool false)]) ⟨rfl, rfl, rfl, rfl, rfl, rfl, rfl, rfl, trivial⟩
    refine hK5 _ _ ?_
    refine Sx.condF F rfl ?_
    refine wp_skip ?_
    refine hK4 _ _ ?_
    refine Sx.seq (fun K6 hK6 => ?_)
    refine Sx.plain ?_
    refine Sx.sv F (Sx.d_load (i := 0) (xs := [.int .u64 ((Wd.hi ss).toNat), .int .u64 ((Wd.lo ss).toNat), .int .u64 ((Wd.hi si).toNat), .int .u64 ((Wd.lo si).toNat)]) rw_57 F H rfl rfl rfl rfl rfl) (Sx.wanted_none rfl _) rfl (by decide) (fun A F => ?_)
    refine Sx.sv F (Sx.d_move F (Or.inl rfl) rfl) (Sx.wanted_none rfl _) rfl (by decide) (fun A F => ?_)
    refine Sx.sw F (Sx.d_call (vs := [.agg #[.int .u64 ((Wd.hi ss).toNat), .int .u64 ((Wd.lo ss).toNat), .int .u64 ((Wd.hi si).toNat), .int .u64 ((Wd.lo si).toNat)], .int .i64 many]) (v := .tuple #[.slice none 0 0, .agg #[.int .u64 ((Wd.hi 0#128).toNat), .int .u64 ((Wd.lo 0#128).toNat), .int .u64 ((Wd.hi 0#128).toNat), .int .u64 ((Wd.lo 0#128).toNat)], .int .i64 3]) if_39 F H rfl rfl (pwords_no ss si many (ho) _)) (Sx.wanted_none rfl _) rfl (by decide) (fun A w F H => ?_)
    refine Sx.sv F (Sx.d_move F (Or.inl rfl) rfl) (Sx.wanted_none rfl _) rfl (by decide) (fun A F => ?_)
    refine Sx.sv F (Sx.d_extract (v := .slice none 0 0) F rfl rfl rfl) (Sx.wanted_none rfl _) rfl (by decide) (fun A F => ?_)
    refine Sx.sv F (Sx.d_extract (v := .agg #[.int .u64 ((Wd.hi 0#128).toNat), .int .u64 ((Wd.lo 0#128).toNat), .int .u64 ((Wd.hi 0#128).toNat), .int .u64 ((Wd.lo 0#128).toNat)]) F rfl rfl rfl) (Sx.wanted_none rfl _) rfl (by decide) (fun A F => ?_)
    refine Sx.sv F (Sx.d_extract (v := .int .i64 3) F rfl rfl rfl) (Sx.wanted_none rfl _) rfl (by decide) (fun A F => ?_)
    refine Sx.sb F (Sx.d_alloc H rfl [.int .u64 ((Wd.hi 0#128).toNat), .int .u64 ((Wd.lo 0#128).toNat), .int .u64 ((Wd.hi 0#128).toNat), .int .u64 ((Wd.lo 0#128).toNat)] zero_57) (Sx.wanted_none rfl _) rfl (by decide) (fun g2 A w F H => ?_)
    refine Sx.sv F (Sx.d_move F (Or.inr rfl) rfl) (Sx.wanted_none rfl _) rfl (by decide) (fun A F => ?_)
    refine Sx.ss F (Sx.d_store (i := 0) (xs := [.int .u64 ((Wd.hi 0#128).toNat), .int .u64 ((Wd.lo 0#128).toNat), .int .u64 ((Wd.hi 0#128).toNat), .int .u64 ((Wd.lo 0#128).toNat)]) (us := [.int .u64 ((Wd.hi 0#128).toNat), .int .u64 ((Wd.lo 0#128).toNat), .int .u64 ((Wd.hi 0#128).toNat), .int .u64 ((Wd.lo 0#128).toNat)]) sz_57 F H rfl rfl rfl rfl rfl rfl rfl (Nat.le_of_ble_eq_true rfl) rfl) (Sx.wanted_none rfl _) rfl (fun A w F (H : Sx.Own w0 _ [(true, g2, [.int .u64 ((Wd.hi 0#128).toNat), .int .u64 ((Wd.lo 0#128).toNat), .int .u64 ((Wd.hi 0#128).toNat), .int .u64 ((Wd.lo 0#128).toNat)]), (true, g1, [.int .u64 ((Wd.hi ss).toNat), .int .u64 ((Wd.lo ss).toNat), .int .u64 ((Wd.hi si).toNat), .int .u64 ((Wd.lo si).toNat)])] []) => ?_)
    refine Sx.sv F (Sx.d_move F (Or.inr rfl) rfl) (Sx.wanted_none rfl _) rfl (by decide) (fun A F => ?_)
    refine Sx.nil ?_
    refine hK6 _ _ ?_
    refine Sx.seq (fun K7 hK7 => ?_)
    have F := Sx.Fr.to F (kv' := [(0, .agg #[.int .u64 ((Wd.hi ss).toNat), .int .u64 ((Wd.lo ss).toNat), .int .u64 ((Wd.hi si).toNat), .int .u64 ((Wd.lo si).toNat)]), (1, .int .i64 many), (2, .int .u16 nn), (3, .pointer (some ⟨g1, 0, none⟩)), (6, .bool false), (14, .bool true), (15, .bool false), (40, .bool false), (42, .agg #[.int .u64 ((Wd.hi ss).toNat), .int .u64 ((Wd.lo ss).toNat), .int .u64 ((Wd.hi si).toNat), .int .u64 ((Wd.lo si).toNat)]), (43, .int .i64 many), (44, .tuple #[.slice none 0 0, .agg #[.int .u64 ((Wd.hi 0#128).toNat), .int .u64 ((Wd.lo 0#128).toNat), .int .u64 ((Wd.hi 0#128).toNat), .int .u64 ((Wd.lo 0#128).toNat)], .int .i64 3]), (41, .tuple #[.slice none 0 0, .agg #[.int .u64 ((Wd.hi 0#128).toNat), .int .u64 ((Wd.lo 0#128).toNat), .int .u64 ((Wd.hi 0#128).toNat), .int .u64 ((Wd.lo 0#128).toNat)], .int .i64 3]), (45, .slice none 0 0), (46, .agg #[.int .u64 ((Wd.hi 0#128).toNat), .int .u64 ((Wd.lo 0#128).toNat), .int .u64 ((Wd.hi 0#128).toNat), .int .u64 ((Wd.lo 0#128).toNat)]), (47, .int .i64 3), (8, .pointer (some ⟨g2, 0, none⟩)), (7, .slice none 0 0), (9, .int .i64 3)]) ⟨rfl, rfl, rfl, rfl, rfl, rfl, rfl, rfl, rfl, rfl, rfl, rfl, rfl, rfl, rfl, rfl, rfl, rfl, trivial⟩
    refine Sx.drawn F (by kernel_rfl) (by kernel_rfl) (by kernel_rfl) [some (.agg #[.int .u64 ((Wd.hi ss).toNat), .int .u64 ((Wd.lo ss).toNat), .int .u64 ((Wd.hi si).toNat), .int .u64 ((Wd.lo si).toNat)]), some (.int .u16 nn), some (.int .u16 m), some (.int .u64 ((BitVec.ofNat 64 m).toNat)), some (.agg #[.int .u64 ((Wd.hi (Wd.of (BitVec.ofNat 64 m))).toNat), .int .u64 ((Wd.lo (Wd.of (BitVec.ofNat 64 m))).toNat)]), some (.tuple #[.agg #[.int .u64 ((Wd.hi 0#128).toNat), .int .u64 ((Wd.lo 0#128).toNat), .int .u64 ((Wd.hi 0#128).toNat), .int .u64 ((Wd.lo 0#128).toNat)], .int .i64 3]), some (.tuple #[.agg #[.int .u64 ((Wd.hi 0#128).toNat), .int .u64 ((Wd.lo 0#128).toNat), .int .u64 ((Wd.hi 0#128).toNat), .int .u64 ((Wd.lo 0#128).toNat)], .int .i64 3]), some (.agg #[.int .u64 ((Wd.hi 0#128).toNat), .int .u64 ((Wd.lo 0#128).toNat), .int .u64 ((Wd.hi 0#128).toNat), .int .u64 ((Wd.lo 0#128).toNat)]), some (.int .i64 3), none, none, some (.int .i64 3)] (fun L A w => ∃ g3 : Nat, (L 9 = true → A.eval (.tmp 10) = .pointer (some ⟨g3, 0, none⟩)) ∧ Sx.Own w0 w [(true, g2, [.int .u64 ((Wd.hi 0#128).toNat), .int .u64 ((Wd.lo 0#128).toNat), .int .u64 ((Wd.hi 0#128).toNat), .int .u64 ((Wd.lo 0#128).toNat)]), (true, g1, [.int .u64 ((Wd.hi ss).toNat), .int .u64 ((Wd.lo ss).toNat), .int .u64 ((Wd.hi si).toNat), .int .u64 ((Wd.lo si).toNat)]), (L 9, g3, (cond (L 10) [.int .u64 ((Wd.hi 0#128).toNat), .int .u64 ((Wd.lo 0#128).toNat), .int .u64 ((Wd.hi 0#128).toNat), .int .u64 ((Wd.lo 0#128).toNat)] [.int .u64 ((Wd.hi 0#128).toNat), .int .u64 ((Wd.lo 0#128).toNat), .int .u64 ((Wd.hi 0#128).toNat), .int .u64 ((Wd.lo 0#128).toNat)]))] []) ⟨0, (fun h => by cases h), H.drew.pad [(false, 0, [.int .u64 ((Wd.hi 0#128).toNat), .int .u64 ((Wd.lo 0#128).toNat), .int .u64 ((Wd.hi 0#128).toNat), .int .u64 ((Wd.lo 0#128).toNat)])] rfl [] rfl⟩ ?_ ?_
    · refine ⟨?_, ?_, ?_, ?_, ?_, ?_, ?_, ?_, ?_, ?_, ?_, ?_, trivial⟩
      · show Sx.StepAt _ _ _ _ _ _ _ 0
        intro L A w up hun hd F ⟨g3, p9, H⟩
        have f10 : L 10 = false := up 10 0 rfl hun
        rw [f10] at H
        have F := Sx.Fr.to F (kv' := [(3, .pointer (some ⟨g1, 0, none⟩))]) ⟨rfl, trivial⟩
        refine Sx.step_on rfl (Sx.d_load (i := 1) (xs := [.int .u64 ((Wd.hi ss).toNat), .int .u64 ((Wd.lo ss).toNat), .int .u64 ((Wd.hi si).toNat), .int .u64 ((Wd.lo si).toNat)]) rw_57 F H rfl rfl rfl rfl rfl) ?_
        rintro xv w' ⟨hx, rfl⟩
        exact ⟨(fun cv hc => hx.trans (Option.some.inj (Option.some.inj hc))), ⟨g3, (fun h => (Sx.put_ne rfl _).trans (p9 h)), (by show Sx.Own _ _ _ _; rw [show Inv.add L 0 10 = false from f10]; exact H)⟩⟩
      · show Sx.StepAt _ _ _ _ _ _ _ 1
        intro L A w up hun hd F ⟨g3, p9, H⟩
        have f10 : L 10 = false := up 10 1 rfl hun
        rw [f10] at H
        have F := Sx.Fr.to F (kv' := [(2, .int .u16 nn)]) ⟨rfl, trivial⟩
        refine Sx.step_on rfl (Sx.d_move F (Or.inl rfl) rfl) ?_
        rintro xv w' ⟨hx, rfl⟩
        exact ⟨(fun cv hc => hx.trans (Option.some.inj (Option.some.inj hc))), ⟨g3, (fun h => (Sx.put_ne rfl _).trans (p9 h)), (by show Sx.Own _ _ _ _; rw [show Inv.add L 1 10 = false from f10]; exact H)⟩⟩
      · show Sx.StepAt _ _ _ _ _ _ _ 2
        intro L A w up hun hd F ⟨g3, p9, H⟩
        have f10 : L 10 = false := up 10 2 rfl hun
        rw [f10] at H
        have F := Sx.Fr.to F (kv' := [(50, .int .u16 nn)]) ⟨rfl, trivial⟩
        refine Sx.step_on rfl (Sx.d_bin (v := .int .u16 m) F rfl rfl rfl (Sx.i_rem hm (by decide))) ?_
        rintro xv w' ⟨hx, rfl⟩
        exact ⟨(fun cv hc => hx.trans (Option.some.inj (Option.some.inj hc))), ⟨g3, (fun h => (Sx.put_ne rfl _).trans (p9 h)), (by show Sx.Own _ _ _ _; rw [show Inv.add L 2 10 = false from f10]; exact H)⟩⟩
      · show Sx.StepAt _ _ _ _ _ _ _ 3
        intro L A w up hun hd F ⟨g3, p9, H⟩
        have f10 : L 10 = false := up 10 3 rfl hun
        rw [f10] at H
        have F := Sx.Fr.to F (kv' := [(51, .int .u16 m)]) ⟨rfl, trivial⟩
        refine Sx.step_on rfl (Sx.d_conv (v := .int .u64 ((BitVec.ofNat 64 m).toNat)) F rfl rfl (Sx.c_u16_u64 m (by omega))) ?_
        rintro xv w' ⟨hx, rfl⟩
        exact ⟨(fun cv hc => hx.trans (Option.some.inj (Option.some.inj hc))), ⟨g3, (fun h => (Sx.put_ne rfl _).trans (p9 h)), (by show Sx.Own _ _ _ _; rw [show Inv.add L 3 10 = false from f10]; exact H)⟩⟩
      · show Sx.StepAt _ _ _ _ _ _ _ 4
        intro L A w up hun hd F ⟨g3, p9, H⟩
        have f10 : L 10 = false := up 10 4 rfl hun
        rw [f10] at H
        have F := Sx.Fr.to F (kv' := [(52, .int .u64 ((BitVec.ofNat 64 m).toNat))]) ⟨rfl, trivial⟩
        refine Sx.step_on rfl (Sx.d_call (vs := [.int .u64 ((BitVec.ofNat 64 m).toNat)]) (v := .agg #[.int .u64 ((Wd.hi (Wd.of (BitVec.ofNat 64 m))).toNat), .int .u64 ((Wd.lo (Wd.of (BitVec.ofNat 64 m))).toNat)]) if_29 F H rfl rfl (wofV_c (BitVec.ofNat 64 m) _)) ?_
        rintro xv w' ⟨hx, H⟩
        exact ⟨(fun cv hc => hx.trans (Option.some.inj (Option.some.inj hc))), ⟨g3, (fun h => (Sx.put_ne rfl _).trans (p9 h)), (by show Sx.Own _ _ _ _; rw [show Inv.add L 4 10 = false from f10]; exact H)⟩⟩
      · show Sx.StepAt _ _ _ _ _ _ _ 5
        intro L A w up hun hd F ⟨g3, p9, H⟩
        have f10 : L 10 = false := up 10 5 rfl hun
        rw [f10] at H
        have F := Sx.Fr.to F (kv' := [(49, .agg #[.int .u64 ((Wd.hi ss).toNat), .int .u64 ((Wd.lo ss).toNat), .int .u64 ((Wd.hi si).toNat), .int .u64 ((Wd.lo si).toNat)]), (53, .agg #[.int .u64 ((Wd.hi (Wd.of (BitVec.ofNat 64 m))).toNat), .int .u64 ((Wd.lo (Wd.of (BitVec.ofNat 64 m))).toNat)])]) ⟨rfl, rfl, trivial⟩
        refine Sx.step_on rfl (Sx.d_call (vs := [.agg #[.int .u64 ((Wd.hi ss).toNat), .int .u64 ((Wd.lo ss).toNat), .int .u64 ((Wd.hi si).toNat), .int .u64 ((Wd.lo si).toNat)], .agg #[.int .u64 ((Wd.hi (Wd.of (BitVec.ofNat 64 m))).toNat), .int .u64 ((Wd.lo (Wd.of (BitVec.ofNat 64 m))).toNat)]]) (v := .tuple #[.agg #[.int .u64 ((Wd.hi 0#128).toNat), .int .u64 ((Wd.lo 0#128).toNat), .int .u64 ((Wd.hi 0#128).toNat), .int .u64 ((Wd.lo 0#128).toNat)], .int .i64 3]) if_40 F H rfl rfl (pjump_no ss si (Wd.of (BitVec.ofNat 64 m)) (ho) _)) ?_
        rintro xv w' ⟨hx, H⟩
        exact ⟨(fun cv hc => hx.trans (Option.some.inj (Option.some.inj hc))), ⟨g3, (fun h => (Sx.put_ne rfl _).trans (p9 h)), (by show Sx.Own _ _ _ _; rw [show Inv.add L 5 10 = false from f10]; exact H)⟩⟩
      · show Sx.StepAt _ _ _ _ _ _ _ 6
        intro L A w up hun hd F ⟨g3, p9, H⟩
        have f10 : L 10 = false := up 10 6 rfl hun
        rw [f10] at H
        have F := Sx.Fr.to F (kv' := [(54, .tuple #[.agg #[.int .u64 ((Wd.hi 0#128).toNat), .int .u64 ((Wd.lo 0#128).toNat), .int .u64 ((Wd.hi 0#128).toNat), .int .u64 ((Wd.lo 0#128).toNat)], .int .i64 3])]) ⟨rfl, trivial⟩
        refine Sx.step_on rfl (Sx.d_move F (Or.inl rfl) rfl) ?_
        rintro xv w' ⟨hx, rfl⟩
        exact ⟨(fun cv hc => hx.trans (Option.some.inj (Option.some.inj hc))), ⟨g3, (fun h => (Sx.put_ne rfl _).trans (p9 h)), (by show Sx.Own _ _ _ _; rw [show Inv.add L 6 10 = false from f10]; exact H)⟩⟩
      · show Sx.StepAt _ _ _ _ _ _ _ 7
        intro L A w up hun hd F ⟨g3, p9, H⟩
        have f10 : L 10 = false := up 10 7 rfl hun
        rw [f10] at H
        have F := Sx.Fr.to F (kv' := [(48, .tuple #[.agg #[.int .u64 ((Wd.hi 0#128).toNat), .int .u64 ((Wd.lo 0#128).toNat), .int .u64 ((Wd.hi 0#128).toNat), .int .u64 ((Wd.lo 0#128).toNat)], .int .i64 3])]) ⟨rfl, trivial⟩
        refine Sx.step_on rfl (Sx.d_extract (v := .agg #[.int .u64 ((Wd.hi 0#128).toNat), .int .u64 ((Wd.lo 0#128).toNat), .int .u64 ((Wd.hi 0#128).toNat), .int .u64 ((Wd.lo 0#128).toNat)]) F rfl rfl rfl) ?_
        rintro xv w' ⟨hx, rfl⟩
        exact ⟨(fun cv hc => hx.trans (Option.some.inj (Option.some.inj hc))), ⟨g3, (fun h => (Sx.put_ne rfl _).trans (p9 h)), (by show Sx.Own _ _ _ _; rw [show Inv.add L 7 10 = false from f10]; exact H)⟩⟩
      · show Sx.StepAt _ _ _ _ _ _ _ 8
        intro L A w up hun hd F ⟨g3, p9, H⟩
        have F := Sx.Fr.to F (kv' := [(48, .tuple #[.agg #[.int .u64 ((Wd.hi 0#128).toNat), .int .u64 ((Wd.lo 0#128).toNat), .int .u64 ((Wd.hi 0#128).toNat), .int .u64 ((Wd.lo 0#128).toNat)], .int .i64 3])]) ⟨rfl, trivial⟩
        refine Sx.step_on rfl (Sx.d_extract (v := .int .i64 3) F rfl rfl rfl) ?_
        rintro xv w' ⟨hx, rfl⟩
        exact ⟨(fun cv hc => hx.trans (Option.some.inj (Option.some.inj hc))), ⟨g3, (fun h => (Sx.put_ne rfl _).trans (p9 h)), H⟩⟩
      · show Sx.StepAt _ _ _ _ _ _ _ 9
        intro L A w up hun hd F ⟨g3, p9, H⟩
        have f9 : L 9 = false := hun
        have f10 : L 10 = false := up 10 9 rfl hun
        rw [f9, f10] at H
        have F := Sx.Fr.to F (kv' := []) trivial
        refine Sx.step_on rfl (Sx.d_alloc_at H rfl 2 [.int .u64 ((Wd.hi 0#128).toNat), .int .u64 ((Wd.lo 0#128).toNat), .int .u64 ((Wd.hi 0#128).toNat), .int .u64 ((Wd.lo 0#128).toNat)] zero_57) ?_
        rintro xv w' ⟨g', hx, H⟩
        exact ⟨(fun cv hc => by have h := Option.some.inj hc; cases h), ⟨g', (fun _ => (Sx.put_same F (by decide) _).trans hx), (by show Sx.Own _ _ _ _; rw [show Inv.add L 9 10 = false from f10]; exact H)⟩⟩
      · show Sx.StepAt _ _ _ _ _ _ _ 10
        intro L A w up hun hd F ⟨g3, p9, H⟩
        have t9 : L 9 = true := hd 9 rfl
        have f10 : L 10 = false := hun
        rw [t9, f10] at H
        have F := Sx.Fr.to F (kv' := [(55, .agg #[.int .u64 ((Wd.hi 0#128).toNat), .int .u64 ((Wd.lo 0#128).toNat), .int .u64 ((Wd.hi 0#128).toNat), .int .u64 ((Wd.lo 0#128).toNat)])]) ⟨rfl, trivial⟩
        have F := Sx.Fr.add F (p9 t9)
        refine Sx.step_on rfl (Sx.d_store (i := 2) (xs := [.int .u64 ((Wd.hi 0#128).toNat), .int .u64 ((Wd.lo 0#128).toNat), .int .u64 ((Wd.hi 0#128).toNat), .int .u64 ((Wd.lo 0#128).toNat)]) (us := [.int .u64 ((Wd.hi 0#128).toNat), .int .u64 ((Wd.lo 0#128).toNat), .int .u64 ((Wd.hi 0#128).toNat), .int .u64 ((Wd.lo 0#128).toNat)]) sz_57 F H rfl rfl rfl rfl rfl rfl rfl (Nat.le_of_ble_eq_true rfl) rfl) ?_
        intro xv w' H
        exact ⟨(fun cv hc => by have h := Option.some.inj hc; cases h), ⟨g3, p9, (by show Sx.Own _ _ _ _; rw [show Inv.add L 10 9 = true from t9]; exact H)⟩⟩
      · show Sx.StepAt _ _ _ _ _ _ _ 11
        intro L A w up hun hd F ⟨g3, p9, H⟩
        have t9 : L 9 = true := hd 9 rfl
        have t10 : L 10 = true := hd 10 rfl
        rw [t9, t10] at H
        have F := Sx.Fr.to F (kv' := [(56, .int .i64 3)]) ⟨rfl, trivial⟩
        have F := Sx.Fr.add F (p9 t9)
        refine Sx.step_on rfl (Sx.d_move F (Or.inr rfl) rfl) ?_
        rintro xv w' ⟨hx, rfl⟩
        exact ⟨(fun cv hc => hx.trans (Option.some.inj (Option.some.inj hc))), ⟨g3, (fun h => (Sx.put_ne rfl _).trans (p9 h)), (by show Sx.Own _ _ _ _; rw [show Inv.add L 11 9 = true from t9, show Inv.add L 11 10 = true from t10]; exact H)⟩⟩
    · intro L A w hL F ⟨g3, p9, H⟩
      have t9 : L 9 = true := hL 9 rfl
      have t10 : L 10 = true := hL 10 rfl
      rw [t9, t10] at H
      have F := Sx.Fr.add F (p9 t9)
      have F := Sx.Fr.to F (kv' := [(0, .agg #[.int .u64 ((Wd.hi ss).toNat), .int .u64 ((Wd.lo ss).toNat), .int .u64 ((Wd.hi si).toNat), .int .u64 ((Wd.lo si).toNat)]), (1, .int .i64 many), (2, .int .u16 nn), (3, .pointer (some ⟨g1, 0, none⟩)), (6, .bool false), (14, .bool true), (15, .bool false), (40, .bool false), (42, .agg #[.int .u64 ((Wd.hi ss).toNat), .int .u64 ((Wd.lo ss).toNat), .int .u64 ((Wd.hi si).toNat), .int .u64 ((Wd.lo si).toNat)]), (43, .int .i64 many), (44, .tuple #[.slice none 0 0, .agg #[.int .u64 ((Wd.hi 0#128).toNat), .int .u64 ((Wd.lo 0#128).toNat), .int .u64 ((Wd.hi 0#128).toNat), .int .u64 ((Wd.lo 0#128).toNat)], .int .i64 3]), (41, .tuple #[.slice none 0 0, .agg #[.int .u64 ((Wd.hi 0#128).toNat), .int .u64 ((Wd.lo 0#128).toNat), .int .u64 ((Wd.hi 0#128).toNat), .int .u64 ((Wd.lo 0#128).toNat)], .int .i64 3]), (45, .slice none 0 0), (46, .agg #[.int .u64 ((Wd.hi 0#128).toNat), .int .u64 ((Wd.lo 0#128).toNat), .int .u64 ((Wd.hi 0#128).toNat), .int .u64 ((Wd.lo 0#128).toNat)]), (47, .int .i64 3), (8, .pointer (some ⟨g2, 0, none⟩)), (7, .slice none 0 0), (9, .int .i64 3), (10, .pointer (some ⟨g3, 0, none⟩)), (11, .int .i64 3)]) ⟨rfl, rfl, rfl, rfl, rfl, rfl, rfl, rfl, rfl, rfl, rfl, rfl, rfl, rfl, rfl, rfl, rfl, rfl, rfl, rfl, trivial⟩
      refine hK7 _ _ ?_
      refine Sx.seq (fun K8 hK8 => ?_)
      refine wp_block ?_
      refine Sx.seq (fun K9 hK9 => ?_)
      refine Sx.plain ?_
      refine Sx.sv F (Sx.d_load (i := 1) (xs := [.int .u64 ((Wd.hi ss).toNat), .int .u64 ((Wd.lo ss).toNat), .int .u64 ((Wd.hi si).toNat), .int .u64 ((Wd.lo si).toNat)]) rw_57 F H rfl rfl rfl rfl rfl) (Sx.wanted_none rfl _) rfl (by decide) (fun A F => ?_)
      refine Sx.sw F (Sx.d_call (vs := [.agg #[.int .u64 ((Wd.hi ss).toNat), .int .u64 ((Wd.lo ss).toNat), .int .u64 ((Wd.hi si).toNat), .int .u64 ((Wd.lo si).toNat)]]) (v := .bool false) if_38 F H rfl rfl (Calls.val (pright_c ss si _) rfl (congrArg Value.bool (ho)))) (Sx.wanted_none rfl _) rfl (by decide) (fun A w F H => ?_)
      refine Sx.sv F (Sx.d_un (v := .bool true) F rfl rfl rfl) (Sx.wanted_none rfl _) rfl (by decide) (fun A F => ?_)
      refine Sx.sv F (Sx.d_move F (Or.inr rfl) rfl) (Sx.wanted_none rfl _) rfl (by decide) (fun A F => ?_)
      refine Sx.nil ?_
      refine hK9 _ _ ?_
      refine Sx.condT F rfl ?_
      refine Sx.seq (fun K10 hK10 => ?_)
      refine Sx.plain ?_
      refine Sx.sv F (Sx.d_move F (Or.inl rfl) rfl) (Sx.wanted_none rfl _) rfl (by decide) (fun A F => ?_)
      refine Sx.sv F (Sx.d_bin (v := .bool true) F rfl rfl rfl (Sx.i_eq (by decide))) (Sx.wanted_none rfl _) rfl (by decide) (fun A F => ?_)
      refine Sx.sv F (Sx.d_move F (Or.inl rfl) rfl) (Sx.wanted_none rfl _) rfl (by decide) (fun A F => ?_)
      refine Sx.sv F (Sx.d_move F (Or.inl rfl) rfl) (Sx.wanted_on rfl (Sx.guard_known (d := 63) (b := true) F rfl rfl) rfl) rfl (by decide) (fun A F => ?_)
      refine Sx.sv F (Sx.d_move F (Or.inl rfl) rfl) (Sx.wanted_on rfl (Sx.guard_known (d := 63) (b := true) F rfl rfl) rfl) rfl (by decide) (fun A F => ?_)
      refine Sx.sv F (Sx.d_bin (v := .bool true) F rfl rfl rfl (Sx.i_eq (by decide))) (Sx.wanted_on rfl (Sx.guard_known (d := 63) (b := true) F rfl rfl) rfl) rfl (by decide) (fun A F => ?_)
      refine Sx.sv F (Sx.d_pickT (v := .bool true) F rfl rfl rfl) (Sx.wanted_none rfl _) rfl (by decide) (fun A F => ?_)
      refine Sx.sv F (Sx.d_move F (Or.inl rfl) rfl) (Sx.wanted_none rfl _) rfl (by decide) (fun A F => ?_)
      refine Sx.sv F (Sx.d_move F (Or.inl rfl) rfl) (Sx.wanted_on rfl (Sx.guard_known (d := 68) (b := true) F rfl rfl) rfl) rfl (by decide) (fun A F => ?_)
      have H := Sx.Own.nilR H 22 1
      refine Sx.sv F (Sx.d_len (i := 0) el_67 F H rfl rfl rfl) (Sx.wanted_on rfl (Sx.guard_known (d := 68) (b := true) F rfl rfl) rfl) rfl (by decide) (fun A F => ?_)
      refine Sx.sv F (Sx.d_bin (v := .bool true) F rfl rfl rfl (Sx.i_eq (by decide))) (Sx.wanted_on rfl (Sx.guard_known (d := 68) (b := true) F rfl rfl) rfl) rfl (by decide) (fun A F => ?_)
      refine Sx.sv F (Sx.d_pickT (v := .bool true) F rfl rfl rfl) (Sx.wanted_none rfl _) rfl (by decide) (fun A F => ?_)
      refine Sx.sv F (Sx.d_move F (Or.inl rfl) rfl) (Sx.wanted_none rfl _) rfl (by decide) (fun A F => ?_)
      refine Sx.sv F (Sx.d_load (i := 0) (xs := [.int .u64 ((Wd.hi 0#128).toNat), .int .u64 ((Wd.lo 0#128).toNat), .int .u64 ((Wd.hi 0#128).toNat), .int .u64 ((Wd.lo 0#128).toNat)]) rw_57 F H rfl rfl rfl rfl rfl) (Sx.wanted_on rfl (Sx.guard_known (d := 73) (b := true) F rfl rfl) rfl) rfl (by decide) (fun A F => ?_)
      refine Sx.sv F (Sx.d_build (qs := #[]) (v := .agg #[.int .u64 ((Wd.hi 0#128).toNat), .int .u64 ((Wd.lo 0#128).toNat), .int .u64 ((Wd.hi 0#128).toNat), .int .u64 ((Wd.lo 0#128).toNat)]) F rfl rfl (by kernel_rfl)) (Sx.wanted_on rfl (Sx.guard_known (d := 73) (b := true) F rfl rfl) rfl) rfl (by decide) (fun A F => ?_)
      refine Sx.sv F (Sx.d_bin (v := .bool true) F rfl rfl rfl (Sx.i_eqP (Sx.eqbM_true rfl rfl))) (Sx.wanted_on rfl (Sx.guard_known (d := 73) (b := true) F rfl rfl) rfl) rfl (by decide) (fun A F => ?_)
      refine Sx.sv F (Sx.d_pickT (v := .bool true) F rfl rfl rfl) (Sx.wanted_none rfl _) rfl (by decide) (fun A F => ?_)
      refine Sx.sv F (Sx.d_move F (Or.inl rfl) rfl) (Sx.wanted_none rfl _) rfl (by decide) (fun A F => ?_)
      refine Sx.sv F (Sx.d_load (i := 2) (xs := [.int .u64 ((Wd.hi 0#128).toNat), .int .u64 ((Wd.lo 0#128).toNat), .int .u64 ((Wd.hi 0#128).toNat), .int .u64 ((Wd.lo 0#128).toNat)]) rw_57 F H rfl rfl rfl rfl rfl) (Sx.wanted_on rfl (Sx.guard_known (d := 78) (b := true) F rfl rfl) rfl) rfl (by decide) (fun A F => ?_)
      refine Sx.sv F (Sx.d_build (qs := #[]) (v := .agg #[.int .u64 ((Wd.hi 0#128).toNat), .int .u64 ((Wd.lo 0#128).toNat), .int .u64 ((Wd.hi 0#128).toNat), .int .u64 ((Wd.lo 0#128).toNat)]) F rfl rfl (by kernel_rfl)) (Sx.wanted_on rfl (Sx.guard_known (d := 78) (b := true) F rfl rfl) rfl) rfl (by decide) (fun A F => ?_)
      refine Sx.sv F (Sx.d_bin (v := .bool true) F rfl rfl rfl (Sx.i_eqP (Sx.eqbM_true rfl rfl))) (Sx.wanted_on rfl (Sx.guard_known (d := 78) (b := true) F rfl rfl) rfl) rfl (by decide) (fun A F => ?_)
      refine Sx.sv F (Sx.d_pickT (v := .bool true) F rfl rfl rfl) (Sx.wanted_none rfl _) rfl (by decide) (fun A F => ?_)
      refine Sx.sv F (Sx.d_move F (Or.inr rfl) rfl) (Sx.wanted_none rfl _) rfl (by decide) (fun A F => ?_)
      refine Sx.nil ?_
      refine hK10 _ _ ?_
      refine wp_ret ?_
      try dsimp only [Exit.then, Exit.inBlock, Exit.jump]
      refine Sx.ret1 F Try.results7 (Sx.res_tmp (v := .bool true) F rfl) ⟨?_, H.below⟩
      rfl
set_option maxRecDepth 100000 in
theorem pcgTells_lo (ss si : BitVec 128) (nn : Nat) (hnn : nn < 65536) (many : Int) (ho : Af.odd si = true) (hy : many < 0) (w0 : World) : Calls Try.prog 7 #[.agg #[.int .u64 ((Wd.hi ss).toNat), .int .u64 ((Wd.lo ss).toNat), .int .u64 ((Wd.hi si).toNat), .int .u64 ((Wd.lo si).toNat)], .int .i64 many, .int .u16 nn] w0 fun e w' => e = .returned (.bool true) ∧ Below w0.heap.size w0 w' := by
  obtain ⟨m, hm⟩ : ∃ m, nn % 300 = m := ⟨_, rfl⟩
  have hm1 : m < 300 := by omega
  refine Sx.enter (args := [.agg #[.int .u64 ((Wd.hi ss).toNat), .int .u64 ((Wd.lo ss).toNat), .int .u64 ((Wd.hi si).toNat), .int .u64 ((Wd.lo si).toNat)], .int .i64 many, .int .u16 nn]) Try.func7 rfl Try.ntmps7 (Nat.le_of_ble_eq_true rfl) (fun A F => ?_)
  have H := Sx.Own.start w0
  refine Sx.seq (fun K1 hK1 => ?_)
  refine Sx.plain ?_
  refine Sx.sb F (Sx.d_box F H rfl rfl [.int .u64 ((Wd.hi ss).toNat), .int .u64 ((Wd.lo ss).toNat), .int .u64 ((Wd.hi si).toNat), .int .u64 ((Wd.lo si).toNat)] rfl) (Sx.wanted_none rfl _) rfl (by decide) (fun g1 A w F H => ?_)
  refine Sx.sv F (Sx.d_move F (Or.inr rfl) rfl) (Sx.wanted_none rfl _) rfl (by decide) (fun A F => ?_)
  refine Sx.nil ?_
  refine hK1 _ _ ?_
  refine Sx.seq (fun K2 hK2 => ?_)
  refine Sx.seq (fun K3 hK3 => ?_)
  refine Sx.plain ?_
  refine Sx.sw F (Sx.d_call (vs := []) (v := .bool true) if_32 F H rfl rfl (awake10_c _)) (Sx.wanted_none rfl _) rfl (by decide) (fun A w F H => ?_)
  refine Sx.sv F (Sx.d_un (v := .bool false) F rfl rfl rfl) (Sx.wanted_none rfl _) rfl (by decide) (fun A F => ?_)
  refine Sx.nil ?_
  refine hK3 _ _ ?_
  refine Sx.condF F rfl ?_
  refine wp_skip ?_
  refine hK2 _ _ ?_
  refine Sx.seq (fun K4 hK4 => ?_)
  refine Sx.seq (fun K5 hK5 => ?_)
  have F := Sx.Fr.to F (kv' := [(0, .agg #[.int .u64 ((Wd.hi ss).toNat), .int .u64 ((Wd.lo ss).toNat), .int .u64 ((Wd.hi si).toNat), .int .u64 ((Wd.lo si).toNat)]), (1, .int .i64 many), (2, .int .u16 nn), (3, .pointer (some ⟨g1, 0, none⟩)), (6, .bool false), (14, .bool true), (15, .bool false)]) ⟨rfl, rfl, rfl, rfl, rfl, rfl, rfl, trivial⟩
  refine Sx.drawn F (by kernel_rfl) (by kernel_rfl) (by kernel_rfl) [some (.agg #[.int .u64 ((Wd.hi ss).toNat), .int .u64 ((Wd.lo ss).toNat), .int .u64 ((Wd.hi si).toNat), .int .u64 ((Wd.lo si).toNat)]), some (.int .u64 ((Pc.word ss).toNat)), some (.agg #[.int .u64 ((Wd.hi ss).toNat), .int .u64 ((Wd.lo ss).toNat), .int .u64 ((Wd.hi si).toNat), .int .u64 ((Wd.lo si).toNat)]), some (.agg #[.int .u64 ((Wd.hi ss).toNat), .int .u64 ((Wd.lo ss).toNat), .int .u64 ((Wd.hi si).toNat), .int .u64 ((Wd.lo si).toNat)]), some (.int .u64 ((Pc.word ss).toNat)), some (.bool false), some (.bool false), some (.agg #[.int .u64 ((Wd.hi ss).toNat), .int .u64 ((Wd.lo ss).toNat), .int .u64 ((Wd.hi si).toNat), .int .u64 ((Wd.lo si).toNat)]), some (.agg #[.int .u64 ((Wd.hi ((Pc.step ⟨ss, si⟩).s)).toNat), .int .u64 ((Wd.lo ((Pc.step ⟨ss, si⟩).s)).toNat), .int .u64 ((Wd.hi si).toNat), .int .u64 ((Wd.lo si).toNat)]), some (.agg #[.int .u64 ((Wd.hi ((Pc.step ⟨ss, si⟩).s)).toNat), .int .u64 ((Wd.lo ((Pc.step ⟨ss, si⟩).s)).toNat), .int .u64 ((Wd.hi si).toNat), .int .u64 ((Wd.lo si).toNat)]), some (.agg #[.int .u64 ((Wd.hi ss).toNat), .int .u64 ((Wd.lo ss).toNat), .int .u64 ((Wd.hi si).toNat), .int .u64 ((Wd.lo si).toNat)]), some (.agg #[.int .u64 ((Wd.hi ss).toNat), .int .u64 ((Wd.lo ss).toNat), .int .u64 ((Wd.hi si).toNat), .int .u64 ((Wd.lo si).toNat)]), some (.agg #[.int .u64 ((Wd.hi ((Pc.step ⟨ss, si⟩).s)).toNat), .int .u64 ((Wd.lo ((Pc.step ⟨ss, si⟩).s)).toNat), .int .u64 ((Wd.hi si).toNat), .int .u64 ((Wd.lo si).toNat)]), some (.bool false), some (.bool false), some (.bool false), some (.agg #[.int .u64 ((Wd.hi ss).toNat), .int .u64 ((Wd.lo ss).toNat), .int .u64 ((Wd.hi si).toNat), .int .u64 ((Wd.lo si).toNat)]), some (.bool true), some (.pointer (some ⟨g1, 2, none⟩)), some (.pointer (some ⟨g1, 3, none⟩)), some (.int .u64 ((Wd.lo si).toNat)), some (.int .u64 (((Wd.lo si) % 2#64).toNat)), some (.bool true), some (.bool false), some (.bool false)] (fun L A w => Sx.Own w0 w [(true, g1, [.int .u64 ((Wd.hi ss).toNat), .int .u64 ((Wd.lo ss).toNat), .int .u64 ((Wd.hi si).toNat), .int .u64 ((Wd.lo si).toNat)])] []) H.drew ?_ ?_
  · refine ⟨?_, ?_, ?_, ?_, ?_, ?_, ?_, ?_, ?_, ?_, ?_, ?_, ?_, ?_, ?_, ?_, ?_, ?_, ?_, ?_, ?_, ?_, ?_, ?_, ?_, trivial⟩
    · show Sx.StepAt _ _ _ _ _ _ _ 0
      intro L A w up hun hd F H
      have F := Sx.Fr.to F (kv' := [(3, .pointer (some ⟨g1, 0, none⟩))]) ⟨rfl, trivial⟩
      refine Sx.step_on rfl (Sx.d_load (i := 0) (xs := [.int .u64 ((Wd.hi ss).toNat), .int .u64 ((Wd.lo ss).toNat), .int .u64 ((Wd.hi si).toNat), .int .u64 ((Wd.lo si).toNat)]) rw_57 F H rfl rfl rfl rfl rfl) ?_
      rintro xv w' ⟨hx, rfl⟩
      exact ⟨(fun cv hc => hx.trans (Option.some.inj (Option.some.inj hc))), H⟩
    · show Sx.StepAt _ _ _ _ _ _ _ 1
      intro L A w up hun hd F H
      have F := Sx.Fr.to F (kv' := [(16, .agg #[.int .u64 ((Wd.hi ss).toNat), .int .u64 ((Wd.lo ss).toNat), .int .u64 ((Wd.hi si).toNat), .int .u64 ((Wd.lo si).toNat)])]) ⟨rfl, trivial⟩
      refine Sx.step_on rfl (Sx.d_call (vs := [.agg #[.int .u64 ((Wd.hi ss).toNat), .int .u64 ((Wd.lo ss).toNat), .int .u64 ((Wd.hi si).toNat), .int .u64 ((Wd.lo si).toNat)]]) (v := .int .u64 ((Pc.word ss).toNat)) if_33 F H rfl rfl (pword_c ss si _)) ?_
      rintro xv w' ⟨hx, H⟩
      exact ⟨(fun cv hc => hx.trans (Option.some.inj (Option.some.inj hc))), H⟩
    · show Sx.StepAt _ _ _ _ _ _ _ 2
      intro L A w up hun hd F H
      have F := Sx.Fr.to F (kv' := [(3, .pointer (some ⟨g1, 0, none⟩))]) ⟨rfl, trivial⟩
      refine Sx.step_on rfl (Sx.d_load (i := 0) (xs := [.int .u64 ((Wd.hi ss).toNat), .int .u64 ((Wd.lo ss).toNat), .int .u64 ((Wd.hi si).toNat), .int .u64 ((Wd.lo si).toNat)]) rw_57 F H rfl rfl rfl rfl rfl) ?_
      rintro xv w' ⟨hx, rfl⟩
      exact ⟨(fun cv hc => hx.trans (Option.some.inj (Option.some.inj hc))), H⟩
    · show Sx.StepAt _ _ _ _ _ _ _ 3
      intro L A w up hun hd F H
      have F := Sx.Fr.to F (kv' := [(18, .agg #[.int .u64 ((Wd.hi ss).toNat), .int .u64 ((Wd.lo ss).toNat), .int .u64 ((Wd.hi si).toNat), .int .u64 ((Wd.lo si).toNat)])]) ⟨rfl, trivial⟩
      refine Sx.step_on rfl (Sx.d_call (vs := [.agg #[.int .u64 ((Wd.hi ss).toNat), .int .u64 ((Wd.lo ss).toNat), .int .u64 ((Wd.hi si).toNat), .int .u64 ((Wd.lo si).toNat)]]) (v := .agg #[.int .u64 ((Wd.hi ss).toNat), .int .u64 ((Wd.lo ss).toNat), .int .u64 ((Wd.hi si).toNat), .int .u64 ((Wd.lo si).toNat)]) if_35 F H rfl rfl (own10_c ss si _)) ?_
      rintro xv w' ⟨hx, H⟩
      exact ⟨(fun cv hc => hx.trans (Option.some.inj (Option.some.inj hc))), H⟩
    · show Sx.StepAt _ _ _ _ _ _ _ 4
      intro L A w up hun hd F H
      have F := Sx.Fr.to F (kv' := [(19, .agg #[.int .u64 ((Wd.hi ss).toNat), .int .u64 ((Wd.lo ss).toNat), .int .u64 ((Wd.hi si).toNat), .int .u64 ((Wd.lo si).toNat)])]) ⟨rfl, trivial⟩
      refine Sx.step_on rfl (Sx.d_call (vs := [.agg #[.int .u64 ((Wd.hi ss).toNat), .int .u64 ((Wd.lo ss).toNat), .int .u64 ((Wd.hi si).toNat), .int .u64 ((Wd.lo si).toNat)]]) (v := .int .u64 ((Pc.word ss).toNat)) if_34 F H rfl rfl (rword10_c ss si _)) ?_
      rintro xv w' ⟨hx, H⟩
      exact ⟨(fun cv hc => hx.trans (Option.some.inj (Option.some.inj hc))), H⟩
    · show Sx.StepAt _ _ _ _ _ _ _ 5
      intro L A w up hun hd F H
      have F := Sx.Fr.to F (kv' := [(17, .int .u64 ((Pc.word ss).toNat)), (20, .int .u64 ((Pc.word ss).toNat))]) ⟨rfl, rfl, trivial⟩
      refine Sx.step_on rfl (Sx.d_bin (v := .bool false) F rfl rfl rfl (Sx.i_ne (by simp))) ?_
      rintro xv w' ⟨hx, rfl⟩
      exact ⟨(fun cv hc => hx.trans (Option.some.inj (Option.some.inj hc))), H⟩
    · show Sx.StepAt _ _ _ _ _ _ _ 6
      intro L A w up hun hd F H
      have F := Sx.Fr.to F (kv' := [(21, .bool false)]) ⟨rfl, trivial⟩
      refine Sx.step_on rfl (Sx.d_move F (Or.inl rfl) rfl) ?_
      rintro xv w' ⟨hx, rfl⟩
      exact ⟨(fun cv hc => hx.trans (Option.some.inj (Option.some.inj hc))), H⟩
    · show Sx.StepAt _ _ _ _ _ _ _ 7
      intro L A w up hun hd F H
      have F := Sx.Fr.to F (kv' := [(3, .pointer (some ⟨g1, 0, none⟩)), (22, .bool false)]) ⟨rfl, rfl, trivial⟩
      refine Sx.step_ong rfl (Sx.guard_known (d := 22) (b := false) F rfl rfl) rfl (Sx.d_load (i := 0) (xs := [.int .u64 ((Wd.hi ss).toNat), .int .u64 ((Wd.lo ss).toNat), .int .u64 ((Wd.hi si).toNat), .int .u64 ((Wd.lo si).toNat)]) rw_57 F H rfl rfl rfl rfl rfl) ?_
      rintro xv w' ⟨hx, rfl⟩
      exact ⟨(fun cv hc => hx.trans (Option.some.inj (Option.some.inj hc))), H⟩
    · show Sx.StepAt _ _ _ _ _ _ _ 8
      intro L A w up hun hd F H
      have F := Sx.Fr.to F (kv' := [(23, .agg #[.int .u64 ((Wd.hi ss).toNat), .int .u64 ((Wd.lo ss).toNat), .int .u64 ((Wd.hi si).toNat), .int .u64 ((Wd.lo si).toNat)]), (22, .bool false)]) ⟨rfl, rfl, trivial⟩
      refine Sx.step_ong rfl (Sx.guard_known (d := 22) (b := false) F rfl rfl) rfl (Sx.d_call (vs := [.agg #[.int .u64 ((Wd.hi ss).toNat), .int .u64 ((Wd.lo ss).toNat), .int .u64 ((Wd.hi si).toNat), .int .u64 ((Wd.lo si).toNat)]]) (v := .agg #[.int .u64 ((Wd.hi ((Pc.step ⟨ss, si⟩).s)).toNat), .int .u64 ((Wd.lo ((Pc.step ⟨ss, si⟩).s)).toNat), .int .u64 ((Wd.hi si).toNat), .int .u64 ((Wd.lo si).toNat)]) if_36 F H rfl rfl (pstep_c ss si _)) ?_
      rintro xv w' ⟨hx, H⟩
      exact ⟨(fun cv hc => hx.trans (Option.some.inj (Option.some.inj hc))), H⟩
    · show Sx.StepAt _ _ _ _ _ _ _ 9
      intro L A w up hun hd F H
      have F := Sx.Fr.to F (kv' := [(24, .agg #[.int .u64 ((Wd.hi ((Pc.step ⟨ss, si⟩).s)).toNat), .int .u64 ((Wd.lo ((Pc.step ⟨ss, si⟩).s)).toNat), .int .u64 ((Wd.hi si).toNat), .int .u64 ((Wd.lo si).toNat)]), (22, .bool false)]) ⟨rfl, rfl, trivial⟩
      refine Sx.step_ong rfl (Sx.guard_known (d := 22) (b := false) F rfl rfl) rfl (Sx.d_call (vs := [.agg #[.int .u64 ((Wd.hi ((Pc.step ⟨ss, si⟩).s)).toNat), .int .u64 ((Wd.lo ((Pc.step ⟨ss, si⟩).s)).toNat), .int .u64 ((Wd.hi si).toNat), .int .u64 ((Wd.lo si).toNat)]]) (v := .agg #[.int .u64 ((Wd.hi ((Pc.step ⟨ss, si⟩).s)).toNat), .int .u64 ((Wd.lo ((Pc.step ⟨ss, si⟩).s)).toNat), .int .u64 ((Wd.hi si).toNat), .int .u64 ((Wd.lo si).toNat)]) if_35 F H rfl rfl (own10_c ((Pc.step ⟨ss, si⟩).s) si _)) ?_
      rintro xv w' ⟨hx, H⟩
      exact ⟨(fun cv hc => hx.trans (Option.some.inj (Option.some.inj hc))), H⟩
    · show Sx.StepAt _ _ _ _ _ _ _ 10
      intro L A w up hun hd F H
      have F := Sx.Fr.to F (kv' := [(3, .pointer (some ⟨g1, 0, none⟩)), (22, .bool false)]) ⟨rfl, rfl, trivial⟩
      refine Sx.step_ong rfl (Sx.guard_known (d := 22) (b := false) F rfl rfl) rfl (Sx.d_load (i := 0) (xs := [.int .u64 ((Wd.hi ss).toNat), .int .u64 ((Wd.lo ss).toNat), .int .u64 ((Wd.hi si).toNat), .int .u64 ((Wd.lo si).toNat)]) rw_57 F H rfl rfl rfl rfl rfl) ?_
      rintro xv w' ⟨hx, rfl⟩
      exact ⟨(fun cv hc => hx.trans (Option.some.inj (Option.some.inj hc))), H⟩
    · show Sx.StepAt _ _ _ _ _ _ _ 11
      intro L A w up hun hd F H
      have F := Sx.Fr.to F (kv' := [(26, .agg #[.int .u64 ((Wd.hi ss).toNat), .int .u64 ((Wd.lo ss).toNat), .int .u64 ((Wd.hi si).toNat), .int .u64 ((Wd.lo si).toNat)]), (22, .bool false)]) ⟨rfl, rfl, trivial⟩
      refine Sx.step_ong rfl (Sx.guard_known (d := 22) (b := false) F rfl rfl) rfl (Sx.d_call (vs := [.agg #[.int .u64 ((Wd.hi ss).toNat), .int .u64 ((Wd.lo ss).toNat), .int .u64 ((Wd.hi si).toNat), .int .u64 ((Wd.lo si).toNat)]]) (v := .agg #[.int .u64 ((Wd.hi ss).toNat), .int .u64 ((Wd.lo ss).toNat), .int .u64 ((Wd.hi si).toNat), .int .u64 ((Wd.lo si).toNat)]) if_35 F H rfl rfl (own10_c ss si _)) ?_
      rintro xv w' ⟨hx, H⟩
      exact ⟨(fun cv hc => hx.trans (Option.some.inj (Option.some.inj hc))), H⟩
    · show Sx.StepAt _ _ _ _ _ _ _ 12
      intro L A w up hun hd F H
      have F := Sx.Fr.to F (kv' := [(27, .agg #[.int .u64 ((Wd.hi ss).toNat), .int .u64 ((Wd.lo ss).toNat), .int .u64 ((Wd.hi si).toNat), .int .u64 ((Wd.lo si).toNat)]), (22, .bool false)]) ⟨rfl, rfl, trivial⟩
      refine Sx.step_ong rfl (Sx.guard_known (d := 22) (b := false) F rfl rfl) rfl (Sx.d_call (vs := [.agg #[.int .u64 ((Wd.hi ss).toNat), .int .u64 ((Wd.lo ss).toNat), .int .u64 ((Wd.hi si).toNat), .int .u64 ((Wd.lo si).toNat)]]) (v := .agg #[.int .u64 ((Wd.hi ((Pc.step ⟨ss, si⟩).s)).toNat), .int .u64 ((Wd.lo ((Pc.step ⟨ss, si⟩).s)).toNat), .int .u64 ((Wd.hi si).toNat), .int .u64 ((Wd.lo si).toNat)]) if_37 F H rfl rfl (rstep10_c ss si _)) ?_
      rintro xv w' ⟨hx, H⟩
      exact ⟨(fun cv hc => hx.trans (Option.some.inj (Option.some.inj hc))), H⟩
    · show Sx.StepAt _ _ _ _ _ _ _ 13
      intro L A w up hun hd F H
      have F := Sx.Fr.to F (kv' := [(25, .agg #[.int .u64 ((Wd.hi ((Pc.step ⟨ss, si⟩).s)).toNat), .int .u64 ((Wd.lo ((Pc.step ⟨ss, si⟩).s)).toNat), .int .u64 ((Wd.hi si).toNat), .int .u64 ((Wd.lo si).toNat)]), (28, .agg #[.int .u64 ((Wd.hi ((Pc.step ⟨ss, si⟩).s)).toNat), .int .u64 ((Wd.lo ((Pc.step ⟨ss, si⟩).s)).toNat), .int .u64 ((Wd.hi si).toNat), .int .u64 ((Wd.lo si).toNat)]), (22, .bool false)]) ⟨rfl, rfl, rfl, trivial⟩
      refine Sx.step_ong rfl (Sx.guard_known (d := 22) (b := false) F rfl rfl) rfl (Sx.d_bin (v := .bool false) F rfl rfl rfl (Sx.i_neQ (by rw [show Sx.eqbM ((Pc.step ⟨ss, si⟩).s) si ((Pc.step ⟨ss, si⟩).s) si = true from Sx.eqbM_true rfl rfl]; rfl))) ?_
      rintro xv w' ⟨hx, rfl⟩
      exact ⟨(fun cv hc => hx.trans (Option.some.inj (Option.some.inj hc))), H⟩
    · show Sx.StepAt _ _ _ _ _ _ _ 14
      intro L A w up hun hd F H
      have F := Sx.Fr.to F (kv' := [(22, .bool false), (29, .bool false)]) ⟨rfl, rfl, trivial⟩
      refine Sx.step_on rfl (Sx.d_pickF (v := .bool false) F rfl rfl rfl) ?_
      rintro xv w' ⟨hx, rfl⟩
      exact ⟨(fun cv hc => hx.trans (Option.some.inj (Option.some.inj hc))), H⟩
    · show Sx.StepAt _ _ _ _ _ _ _ 15
      intro L A w up hun hd F H
      have F := Sx.Fr.to F (kv' := [(30, .bool false)]) ⟨rfl, trivial⟩
      refine Sx.step_on rfl (Sx.d_move F (Or.inl rfl) rfl) ?_
      rintro xv w' ⟨hx, rfl⟩
      exact ⟨(fun cv hc => hx.trans (Option.some.inj (Option.some.inj hc))), H⟩
    · show Sx.StepAt _ _ _ _ _ _ _ 16
      intro L A w up hun hd F H
      have F := Sx.Fr.to F (kv' := [(3, .pointer (some ⟨g1, 0, none⟩)), (31, .bool false)]) ⟨rfl, rfl, trivial⟩
      refine Sx.step_ong rfl (Sx.guard_known (d := 31) (b := false) F rfl rfl) rfl (Sx.d_load (i := 0) (xs := [.int .u64 ((Wd.hi ss).toNat), .int .u64 ((Wd.lo ss).toNat), .int .u64 ((Wd.hi si).toNat), .int .u64 ((Wd.lo si).toNat)]) rw_57 F H rfl rfl rfl rfl rfl) ?_
      rintro xv w' ⟨hx, rfl⟩
      exact ⟨(fun cv hc => hx.trans (Option.some.inj (Option.some.inj hc))), H⟩
    · show Sx.StepAt _ _ _ _ _ _ _ 17
      intro L A w up hun hd F H
      have F := Sx.Fr.to F (kv' := [(32, .agg #[.int .u64 ((Wd.hi ss).toNat), .int .u64 ((Wd.lo ss).toNat), .int .u64 ((Wd.hi si).toNat), .int .u64 ((Wd.lo si).toNat)]), (31, .bool false)]) ⟨rfl, rfl, trivial⟩
      refine Sx.step_ong rfl (Sx.guard_known (d := 31) (b := false) F rfl rfl) rfl (Sx.d_call (vs := [.agg #[.int .u64 ((Wd.hi ss).toNat), .int .u64 ((Wd.lo ss).toNat), .int .u64 ((Wd.hi si).toNat), .int .u64 ((Wd.lo si).toNat)]]) (v := .bool true) if_38 F H rfl rfl (Calls.val (pright_c ss si _) rfl (congrArg Value.bool (ho)))) ?_
      rintro xv w' ⟨hx, H⟩
      exact ⟨(fun cv hc => hx.trans (Option.some.inj (Option.some.inj hc))), H⟩
    · show Sx.StepAt _ _ _ _ _ _ _ 18
      intro L A w up hun hd F H
      have F := Sx.Fr.to F (kv' := [(3, .pointer (some ⟨g1, 0, none⟩)), (31, .bool false)]) ⟨rfl, rfl, trivial⟩
      refine Sx.step_ong rfl (Sx.guard_known (d := 31) (b := false) F rfl rfl) rfl (Sx.d_faddr (v := .pointer (some ⟨g1, 2, none⟩)) F rfl rfl (fa_57_1 _ 0 _)) ?_
      rintro xv w' ⟨hx, rfl⟩
      exact ⟨(fun cv hc => hx.trans (Option.some.inj (Option.some.inj hc))), H⟩
    · show Sx.StepAt _ _ _ _ _ _ _ 19
      intro L A w up hun hd F H
      have F := Sx.Fr.to F (kv' := [(34, .pointer (some ⟨g1, 2, none⟩)), (31, .bool false)]) ⟨rfl, rfl, trivial⟩
      refine Sx.step_ong rfl (Sx.guard_known (d := 31) (b := false) F rfl rfl) rfl (Sx.d_faddr (v := .pointer (some ⟨g1, 3, none⟩)) F rfl rfl (fa_24_1 _ 2 _)) ?_
      rintro xv w' ⟨hx, rfl⟩
      exact ⟨(fun cv hc => hx.trans (Option.some.inj (Option.some.inj hc))), H⟩
    · show Sx.StepAt _ _ _ _ _ _ _ 20
      intro L A w up hun hd F H
      have F := Sx.Fr.to F (kv' := [(35, .pointer (some ⟨g1, 3, none⟩)), (31, .bool false)]) ⟨rfl, rfl, trivial⟩
      refine Sx.step_ong rfl (Sx.guard_known (d := 31) (b := false) F rfl rfl) rfl (Sx.d_load1 (i := 0) (v := .int .u64 ((Wd.lo si).toNat)) one_22 F H rfl rfl rfl rfl) ?_
      rintro xv w' ⟨hx, rfl⟩
      exact ⟨(fun cv hc => hx.trans (Option.some.inj (Option.some.inj hc))), H⟩
    · show Sx.StepAt _ _ _ _ _ _ _ 21
      intro L A w up hun hd F H
      have F := Sx.Fr.to F (kv' := [(36, .int .u64 ((Wd.lo si).toNat)), (31, .bool false)]) ⟨rfl, rfl, trivial⟩
      refine Sx.step_ong rfl (Sx.guard_known (d := 31) (b := false) F rfl rfl) rfl (Sx.d_bin (v := .int .u64 (((Wd.lo si) % 2#64).toNat)) F rfl rfl rfl (Sx.i_rem64 (Wd.lo si) 2#64 (by decide))) ?_
      rintro xv w' ⟨hx, rfl⟩
      exact ⟨(fun cv hc => hx.trans (Option.some.inj (Option.some.inj hc))), H⟩
    · show Sx.StepAt _ _ _ _ _ _ _ 22
      intro L A w up hun hd F H
      have F := Sx.Fr.to F (kv' := [(37, .int .u64 (((Wd.lo si) % 2#64).toNat)), (31, .bool false)]) ⟨rfl, rfl, trivial⟩
      refine Sx.step_ong rfl (Sx.guard_known (d := 31) (b := false) F rfl rfl) rfl (Sx.d_bin (v := .bool true) F rfl rfl rfl (Sx.i_eq ((Pc.lo_bit si).trans ho))) ?_
      rintro xv w' ⟨hx, rfl⟩
      exact ⟨(fun cv hc => hx.trans (Option.some.inj (Option.some.inj hc))), H⟩
    · show Sx.StepAt _ _ _ _ _ _ _ 23
      intro L A w up hun hd F H
      have F := Sx.Fr.to F (kv' := [(33, .bool true), (38, .bool true), (31, .bool false)]) ⟨rfl, rfl, rfl, trivial⟩
      refine Sx.step_ong rfl (Sx.guard_known (d := 31) (b := false) F rfl rfl) rfl (Sx.d_bin (v := .bool false) F rfl rfl rfl (Sx.b_ne (by simp))) ?_
      rintro xv w' ⟨hx, rfl⟩
      exact ⟨(fun cv hc => hx.trans (Option.some.inj (Option.some.inj hc))), H⟩
    · show Sx.StepAt _ _ _ _ _ _ _ 24
      intro L A w up hun hd F H
      have F := Sx.Fr.to F (kv' := [(31, .bool false), (39, .bool false)]) ⟨rfl, rfl, trivial⟩
      refine Sx.step_on rfl (Sx.d_pickF (v := .bool false) F rfl rfl rfl) ?_
      rintro xv w' ⟨hx, rfl⟩
      exact ⟨(fun cv hc => hx.trans (Option.some.inj (Option.some.inj hc))), H⟩
  · intro L A w hL F H
    have F := Sx.Fr.to F (kv' := [(0, .agg #[.int .u64 ((Wd.hi ss).toNat), .int .u64 ((Wd.lo ss).toNat), .int .u64 ((Wd.hi si).toNat), .int .u64 ((Wd.lo si).toNat)]), (1, .int .i64 many), (2, .int .u16 nn), (3, .pointer (some ⟨g1, 0, none⟩)), (6, .bool false), (14, .bool true), (15, .bool false), (40, .bool false)]) ⟨rfl, rfl, rfl, rfl, rfl, rfl, rfl, rfl, trivial⟩
    refine hK5 _ _ ?_
    refine Sx.condF F rfl ?_
    refine wp_skip ?_
    refine hK4 _ _ ?_
    refine Sx.seq (fun K6 hK6 => ?_)
    refine Sx.plain ?_
    refine Sx.sv F (Sx.d_load (i := 0) (xs := [.int .u64 ((Wd.hi ss).toNat), .int .u64 ((Wd.lo ss).toNat), .int .u64 ((Wd.hi si).toNat), .int .u64 ((Wd.lo si).toNat)]) rw_57 F H rfl rfl rfl rfl rfl) (Sx.wanted_none rfl _) rfl (by decide) (fun A F => ?_)
    refine Sx.sv F (Sx.d_move F (Or.inl rfl) rfl) (Sx.wanted_none rfl _) rfl (by decide) (fun A F => ?_)
    refine Sx.sw F (Sx.d_call (vs := [.agg #[.int .u64 ((Wd.hi ss).toNat), .int .u64 ((Wd.lo ss).toNat), .int .u64 ((Wd.hi si).toNat), .int .u64 ((Wd.lo si).toNat)], .int .i64 many]) (v := .tuple #[.slice none 0 0, .agg #[.int .u64 ((Wd.hi 0#128).toNat), .int .u64 ((Wd.lo 0#128).toNat), .int .u64 ((Wd.hi 0#128).toNat), .int .u64 ((Wd.lo 0#128).toNat)], .int .i64 1]) if_39 F H rfl rfl (pwords_lo ss si many (ho) (by omega) _)) (Sx.wanted_none rfl _) rfl (by decide) (fun A w F H => ?_)
    refine Sx.sv F (Sx.d_move F (Or.inl rfl) rfl) (Sx.wanted_none rfl _) rfl (by decide) (fun A F => ?_)
    refine Sx.sv F (Sx.d_extract (v := .slice none 0 0) F rfl rfl rfl) (Sx.wanted_none rfl _) rfl (by decide) (fun A F => ?_)
    refine Sx.sv F (Sx.d_extract (v := .agg #[.int .u64 ((Wd.hi 0#128).toNat), .int .u64 ((Wd.lo 0#128).toNat), .int .u64 ((Wd.hi 0#128).toNat), .int .u64 ((Wd.lo 0#128).toNat)]) F rfl rfl rfl) (Sx.wanted_none rfl _) rfl (by decide) (fun A F => ?_)
    refine Sx.sv F (Sx.d_extract (v := .int .i64 1) F rfl rfl rfl) (Sx.wanted_none rfl _) rfl (by decide) (fun A F => ?_)
    refine Sx.sb F (Sx.d_alloc H rfl [.int .u64 ((Wd.hi 0#128).toNat), .int .u64 ((Wd.lo 0#128).toNat), .int .u64 ((Wd.hi 0#128).toNat), .int .u64 ((Wd.lo 0#128).toNat)] zero_57) (Sx.wanted_none rfl _) rfl (by decide) (fun g2 A w F H => ?_)
    refine Sx.sv F (Sx.d_move F (Or.inr rfl) rfl) (Sx.wanted_none rfl _) rfl (by decide) (fun A F => ?_)
    refine Sx.ss F (Sx.d_store (i := 0) (xs := [.int .u64 ((Wd.hi 0#128).toNat), .int .u64 ((Wd.lo 0#128).toNat), .int .u64 ((Wd.hi 0#128).toNat), .int .u64 ((Wd.lo 0#128).toNat)]) (us := [.int .u64 ((Wd.hi 0#128).toNat), .int .u64 ((Wd.lo 0#128).toNat), .int .u64 ((Wd.hi 0#128).toNat), .int .u64 ((Wd.lo 0#128).toNat)]) sz_57 F H rfl rfl rfl rfl rfl rfl rfl (Nat.le_of_ble_eq_true rfl) rfl) (Sx.wanted_none rfl _) rfl (fun A w F (H : Sx.Own w0 _ [(true, g2, [.int .u64 ((Wd.hi 0#128).toNat), .int .u64 ((Wd.lo 0#128).toNat), .int .u64 ((Wd.hi 0#128).toNat), .int .u64 ((Wd.lo 0#128).toNat)]), (true, g1, [.int .u64 ((Wd.hi ss).toNat), .int .u64 ((Wd.lo ss).toNat), .int .u64 ((Wd.hi si).toNat), .int .u64 ((Wd.lo si).toNat)])] []) => ?_)
    refine Sx.sv F (Sx.d_move F (Or.inr rfl) rfl) (Sx.wanted_none rfl _) rfl (by decide) (fun A F => ?_)
    refine Sx.nil ?_
    refine hK6 _ _ ?_
    refine Sx.seq (fun K7 hK7 => ?_)
    have F := Sx.Fr.to F (kv' := [(0, .agg #[.int .u64 ((Wd.hi ss).toNat), .int .u64 ((Wd.lo ss).toNat), .int .u64 ((Wd.hi si).toNat), .int .u64 ((Wd.lo si).toNat)]), (1, .int .i64 many), (2, .int .u16 nn), (3, .pointer (some ⟨g1, 0, none⟩)), (6, .bool false), (14, .bool true), (15, .bool false), (40, .bool false), (42, .agg #[.int .u64 ((Wd.hi ss).toNat), .int .u64 ((Wd.lo ss).toNat), .int .u64 ((Wd.hi si).toNat), .int .u64 ((Wd.lo si).toNat)]), (43, .int .i64 many), (44, .tuple #[.slice none 0 0, .agg #[.int .u64 ((Wd.hi 0#128).toNat), .int .u64 ((Wd.lo 0#128).toNat), .int .u64 ((Wd.hi 0#128).toNat), .int .u64 ((Wd.lo 0#128).toNat)], .int .i64 1]), (41, .tuple #[.slice none 0 0, .agg #[.int .u64 ((Wd.hi 0#128).toNat), .int .u64 ((Wd.lo 0#128).toNat), .int .u64 ((Wd.hi 0#128).toNat), .int .u64 ((Wd.lo 0#128).toNat)], .int .i64 1]), (45, .slice none 0 0), (46, .agg #[.int .u64 ((Wd.hi 0#128).toNat), .int .u64 ((Wd.lo 0#128).toNat), .int .u64 ((Wd.hi 0#128).toNat), .int .u64 ((Wd.lo 0#128).toNat)]), (47, .int .i64 1), (8, .pointer (some ⟨g2, 0, none⟩)), (7, .slice none 0 0), (9, .int .i64 1)]) ⟨rfl, rfl, rfl, rfl, rfl, rfl, rfl, rfl, rfl, rfl, rfl, rfl, rfl, rfl, rfl, rfl, rfl, rfl, trivial⟩
    refine Sx.drawn F (by kernel_rfl) (by kernel_rfl) (by kernel_rfl) [some (.agg #[.int .u64 ((Wd.hi ss).toNat), .int .u64 ((Wd.lo ss).toNat), .int .u64 ((Wd.hi si).toNat), .int .u64 ((Wd.lo si).toNat)]), some (.int .u16 nn), some (.int .u16 m), some (.int .u64 ((BitVec.ofNat 64 m).toNat)), some (.agg #[.int .u64 ((Wd.hi (Wd.of (BitVec.ofNat 64 m))).toNat), .int .u64 ((Wd.lo (Wd.of (BitVec.ofNat 64 m))).toNat)]), some (.tuple #[.agg #[.int .u64 ((Wd.hi ((Pc.jump ⟨ss, si⟩ (Wd.of (BitVec.ofNat 64 m))).s)).toNat), .int .u64 ((Wd.lo ((Pc.jump ⟨ss, si⟩ (Wd.of (BitVec.ofNat 64 m))).s)).toNat), .int .u64 ((Wd.hi si).toNat), .int .u64 ((Wd.lo si).toNat)], .int .i64 0]), some (.tuple #[.agg #[.int .u64 ((Wd.hi ((Pc.jump ⟨ss, si⟩ (Wd.of (BitVec.ofNat 64 m))).s)).toNat), .int .u64 ((Wd.lo ((Pc.jump ⟨ss, si⟩ (Wd.of (BitVec.ofNat 64 m))).s)).toNat), .int .u64 ((Wd.hi si).toNat), .int .u64 ((Wd.lo si).toNat)], .int .i64 0]), some (.agg #[.int .u64 ((Wd.hi ((Pc.jump ⟨ss, si⟩ (Wd.of (BitVec.ofNat 64 m))).s)).toNat), .int .u64 ((Wd.lo ((Pc.jump ⟨ss, si⟩ (Wd.of (BitVec.ofNat 64 m))).s)).toNat), .int .u64 ((Wd.hi si).toNat), .int .u64 ((Wd.lo si).toNat)]), some (.int .i64 0), none, none, some (.int .i64 0)] (fun L A w => ∃ g3 : Nat, (L 9 = true → A.eval (.tmp 10) = .pointer (some ⟨g3, 0, none⟩)) ∧ Sx.Own w0 w [(true, g2, [.int .u64 ((Wd.hi 0#128).toNat), .int .u64 ((Wd.lo 0#128).toNat), .int .u64 ((Wd.hi 0#128).toNat), .int .u64 ((Wd.lo 0#128).toNat)]), (true, g1, [.int .u64 ((Wd.hi ss).toNat), .int .u64 ((Wd.lo ss).toNat), .int .u64 ((Wd.hi si).toNat), .int .u64 ((Wd.lo si).toNat)]), (L 9, g3, (cond (L 10) [.int .u64 ((Wd.hi ((Pc.jump ⟨ss, si⟩ (Wd.of (BitVec.ofNat 64 m))).s)).toNat), .int .u64 ((Wd.lo ((Pc.jump ⟨ss, si⟩ (Wd.of (BitVec.ofNat 64 m))).s)).toNat), .int .u64 ((Wd.hi si).toNat), .int .u64 ((Wd.lo si).toNat)] [.int .u64 ((Wd.hi 0#128).toNat), .int .u64 ((Wd.lo 0#128).toNat), .int .u64 ((Wd.hi 0#128).toNat), .int .u64 ((Wd.lo 0#128).toNat)]))] []) ⟨0, (fun h => by cases h), H.drew.pad [(false, 0, [.int .u64 ((Wd.hi 0#128).toNat), .int .u64 ((Wd.lo 0#128).toNat), .int .u64 ((Wd.hi 0#128).toNat), .int .u64 ((Wd.lo 0#128).toNat)])] rfl [] rfl⟩ ?_ ?_
    · refine ⟨?_, ?_, ?_, ?_, ?_, ?_, ?_, ?_, ?_, ?_, ?_, ?_, trivial⟩
      · show Sx.StepAt _ _ _ _ _ _ _ 0
        intro L A w up hun hd F ⟨g3, p9, H⟩
        have f10 : L 10 = false := up 10 0 rfl hun
        rw [f10] at H
        have F := Sx.Fr.to F (kv' := [(3, .pointer (some ⟨g1, 0, none⟩))]) ⟨rfl, trivial⟩
        refine Sx.step_on rfl (Sx.d_load (i := 1) (xs := [.int .u64 ((Wd.hi ss).toNat), .int .u64 ((Wd.lo ss).toNat), .int .u64 ((Wd.hi si).toNat), .int .u64 ((Wd.lo si).toNat)]) rw_57 F H rfl rfl rfl rfl rfl) ?_
        rintro xv w' ⟨hx, rfl⟩
        exact ⟨(fun cv hc => hx.trans (Option.some.inj (Option.some.inj hc))), ⟨g3, (fun h => (Sx.put_ne rfl _).trans (p9 h)), (by show Sx.Own _ _ _ _; rw [show Inv.add L 0 10 = false from f10]; exact H)⟩⟩
      · show Sx.StepAt _ _ _ _ _ _ _ 1
        intro L A w up hun hd F ⟨g3, p9, H⟩
        have f10 : L 10 = false := up 10 1 rfl hun
        rw [f10] at H
        have F := Sx.Fr.to F (kv' := [(2, .int .u16 nn)]) ⟨rfl, trivial⟩
        refine Sx.step_on rfl (Sx.d_move F (Or.inl rfl) rfl) ?_
        rintro xv w' ⟨hx, rfl⟩
        exact ⟨(fun cv hc => hx.trans (Option.some.inj (Option.some.inj hc))), ⟨g3, (fun h => (Sx.put_ne rfl _).trans (p9 h)), (by show Sx.Own _ _ _ _; rw [show Inv.add L 1 10 = false from f10]; exact H)⟩⟩
      · show Sx.StepAt _ _ _ _ _ _ _ 2
        intro L A w up hun hd F ⟨g3, p9, H⟩
        have f10 : L 10 = false := up 10 2 rfl hun
        rw [f10] at H
        have F := Sx.Fr.to F (kv' := [(50, .int .u16 nn)]) ⟨rfl, trivial⟩
        refine Sx.step_on rfl (Sx.d_bin (v := .int .u16 m) F rfl rfl rfl (Sx.i_rem hm (by decide))) ?_
        rintro xv w' ⟨hx, rfl⟩
        exact ⟨(fun cv hc => hx.trans (Option.some.inj (Option.some.inj hc))), ⟨g3, (fun h => (Sx.put_ne rfl _).trans (p9 h)), (by show Sx.Own _ _ _ _; rw [show Inv.add L 2 10 = false from f10]; exact H)⟩⟩
      · show Sx.StepAt _ _ _ _ _ _ _ 3
        intro L A w up hun hd F ⟨g3, p9, H⟩
        have f10 : L 10 = false := up 10 3 rfl hun
        rw [f10] at H
        have F := Sx.Fr.to F (kv' := [(51, .int .u16 m)]) ⟨rfl, trivial⟩
        refine Sx.step_on rfl (Sx.d_conv (v := .int .u64 ((BitVec.ofNat 64 m).toNat)) F rfl rfl (Sx.c_u16_u64 m (by omega))) ?_
        rintro xv w' ⟨hx, rfl⟩
        exact ⟨(fun cv hc => hx.trans (Option.some.inj (Option.some.inj hc))), ⟨g3, (fun h => (Sx.put_ne rfl _).trans (p9 h)), (by show Sx.Own _ _ _ _; rw [show Inv.add L 3 10 = false from f10]; exact H)⟩⟩
      · show Sx.StepAt _ _ _ _ _ _ _ 4
        intro L A w up hun hd F ⟨g3, p9, H⟩
        have f10 : L 10 = false := up 10 4 rfl hun
        rw [f10] at H
        have F := Sx.Fr.to F (kv' := [(52, .int .u64 ((BitVec.ofNat 64 m).toNat))]) ⟨rfl, trivial⟩
        refine Sx.step_on rfl (Sx.d_call (vs := [.int .u64 ((BitVec.ofNat 64 m).toNat)]) (v := .agg #[.int .u64 ((Wd.hi (Wd.of (BitVec.ofNat 64 m))).toNat), .int .u64 ((Wd.lo (Wd.of (BitVec.ofNat 64 m))).toNat)]) if_29 F H rfl rfl (wofV_c (BitVec.ofNat 64 m) _)) ?_
        rintro xv w' ⟨hx, H⟩
        exact ⟨(fun cv hc => hx.trans (Option.some.inj (Option.some.inj hc))), ⟨g3, (fun h => (Sx.put_ne rfl _).trans (p9 h)), (by show Sx.Own _ _ _ _; rw [show Inv.add L 4 10 = false from f10]; exact H)⟩⟩
      · show Sx.StepAt _ _ _ _ _ _ _ 5
        intro L A w up hun hd F ⟨g3, p9, H⟩
        have f10 : L 10 = false := up 10 5 rfl hun
        rw [f10] at H
        have F := Sx.Fr.to F (kv' := [(49, .agg #[.int .u64 ((Wd.hi ss).toNat), .int .u64 ((Wd.lo ss).toNat), .int .u64 ((Wd.hi si).toNat), .int .u64 ((Wd.lo si).toNat)]), (53, .agg #[.int .u64 ((Wd.hi (Wd.of (BitVec.ofNat 64 m))).toNat), .int .u64 ((Wd.lo (Wd.of (BitVec.ofNat 64 m))).toNat)])]) ⟨rfl, rfl, trivial⟩
        refine Sx.step_on rfl (Sx.d_call (vs := [.agg #[.int .u64 ((Wd.hi ss).toNat), .int .u64 ((Wd.lo ss).toNat), .int .u64 ((Wd.hi si).toNat), .int .u64 ((Wd.lo si).toNat)], .agg #[.int .u64 ((Wd.hi (Wd.of (BitVec.ofNat 64 m))).toNat), .int .u64 ((Wd.lo (Wd.of (BitVec.ofNat 64 m))).toNat)]]) (v := .tuple #[.agg #[.int .u64 ((Wd.hi ((Pc.jump ⟨ss, si⟩ (Wd.of (BitVec.ofNat 64 m))).s)).toNat), .int .u64 ((Wd.lo ((Pc.jump ⟨ss, si⟩ (Wd.of (BitVec.ofNat 64 m))).s)).toNat), .int .u64 ((Wd.hi si).toNat), .int .u64 ((Wd.lo si).toNat)], .int .i64 0]) if_40 F H rfl rfl (pjump_ok ss si (Wd.of (BitVec.ofNat 64 m)) (ho) _)) ?_
        rintro xv w' ⟨hx, H⟩
        exact ⟨(fun cv hc => hx.trans (Option.some.inj (Option.some.inj hc))), ⟨g3, (fun h => (Sx.put_ne rfl _).trans (p9 h)), (by show Sx.Own _ _ _ _; rw [show Inv.add L 5 10 = false from f10]; exact H)⟩⟩
      · show Sx.StepAt _ _ _ _ _ _ _ 6
        intro L A w up hun hd F ⟨g3, p9, H⟩
        have f10 : L 10 = false := up 10 6 rfl hun
        rw [f10] at H
        have F := Sx.Fr.to F (kv' := [(54, .tuple #[.agg #[.int .u64 ((Wd.hi ((Pc.jump ⟨ss, si⟩ (Wd.of (BitVec.ofNat 64 m))).s)).toNat), .int .u64 ((Wd.lo ((Pc.jump ⟨ss, si⟩ (Wd.of (BitVec.ofNat 64 m))).s)).toNat), .int .u64 ((Wd.hi si).toNat), .int .u64 ((Wd.lo si).toNat)], .int .i64 0])]) ⟨rfl, trivial⟩
        refine Sx.step_on rfl (Sx.d_move F (Or.inl rfl) rfl) ?_
        rintro xv w' ⟨hx, rfl⟩
        exact ⟨(fun cv hc => hx.trans (Option.some.inj (Option.some.inj hc))), ⟨g3, (fun h => (Sx.put_ne rfl _).trans (p9 h)), (by show Sx.Own _ _ _ _; rw [show Inv.add L 6 10 = false from f10]; exact H)⟩⟩
      · show Sx.StepAt _ _ _ _ _ _ _ 7
        intro L A w up hun hd F ⟨g3, p9, H⟩
        have f10 : L 10 = false := up 10 7 rfl hun
        rw [f10] at H
        have F := Sx.Fr.to F (kv' := [(48, .tuple #[.agg #[.int .u64 ((Wd.hi ((Pc.jump ⟨ss, si⟩ (Wd.of (BitVec.ofNat 64 m))).s)).toNat), .int .u64 ((Wd.lo ((Pc.jump ⟨ss, si⟩ (Wd.of (BitVec.ofNat 64 m))).s)).toNat), .int .u64 ((Wd.hi si).toNat), .int .u64 ((Wd.lo si).toNat)], .int .i64 0])]) ⟨rfl, trivial⟩
        refine Sx.step_on rfl (Sx.d_extract (v := .agg #[.int .u64 ((Wd.hi ((Pc.jump ⟨ss, si⟩ (Wd.of (BitVec.ofNat 64 m))).s)).toNat), .int .u64 ((Wd.lo ((Pc.jump ⟨ss, si⟩ (Wd.of (BitVec.ofNat 64 m))).s)).toNat), .int .u64 ((Wd.hi si).toNat), .int .u64 ((Wd.lo si).toNat)]) F rfl rfl rfl) ?_
        rintro xv w' ⟨hx, rfl⟩
        exact ⟨(fun cv hc => hx.trans (Option.some.inj (Option.some.inj hc))), ⟨g3, (fun h => (Sx.put_ne rfl _).trans (p9 h)), (by show Sx.Own _ _ _ _; rw [show Inv.add L 7 10 = false from f10]; exact H)⟩⟩
      · show Sx.StepAt _ _ _ _ _ _ _ 8
        intro L A w up hun hd F ⟨g3, p9, H⟩
        have F := Sx.Fr.to F (kv' := [(48, .tuple #[.agg #[.int .u64 ((Wd.hi ((Pc.jump ⟨ss, si⟩ (Wd.of (BitVec.ofNat 64 m))).s)).toNat), .int .u64 ((Wd.lo ((Pc.jump ⟨ss, si⟩ (Wd.of (BitVec.ofNat 64 m))).s)).toNat), .int .u64 ((Wd.hi si).toNat), .int .u64 ((Wd.lo si).toNat)], .int .i64 0])]) ⟨rfl, trivial⟩
        refine Sx.step_on rfl (Sx.d_extract (v := .int .i64 0) F rfl rfl rfl) ?_
        rintro xv w' ⟨hx, rfl⟩
        exact ⟨(fun cv hc => hx.trans (Option.some.inj (Option.some.inj hc))), ⟨g3, (fun h => (Sx.put_ne rfl _).trans (p9 h)), H⟩⟩
      · show Sx.StepAt _ _ _ _ _ _ _ 9
        intro L A w up hun hd F ⟨g3, p9, H⟩
        have f9 : L 9 = false := hun
        have f10 : L 10 = false := up 10 9 rfl hun
        rw [f9, f10] at H
        have F := Sx.Fr.to F (kv' := []) trivial
        refine Sx.step_on rfl (Sx.d_alloc_at H rfl 2 [.int .u64 ((Wd.hi 0#128).toNat), .int .u64 ((Wd.lo 0#128).toNat), .int .u64 ((Wd.hi 0#128).toNat), .int .u64 ((Wd.lo 0#128).toNat)] zero_57) ?_
        rintro xv w' ⟨g', hx, H⟩
        exact ⟨(fun cv hc => by have h := Option.some.inj hc; cases h), ⟨g', (fun _ => (Sx.put_same F (by decide) _).trans hx), (by show Sx.Own _ _ _ _; rw [show Inv.add L 9 10 = false from f10]; exact H)⟩⟩
      · show Sx.StepAt _ _ _ _ _ _ _ 10
        intro L A w up hun hd F ⟨g3, p9, H⟩
        have t9 : L 9 = true := hd 9 rfl
        have f10 : L 10 = false := hun
        rw [t9, f10] at H
        have F := Sx.Fr.to F (kv' := [(55, .agg #[.int .u64 ((Wd.hi ((Pc.jump ⟨ss, si⟩ (Wd.of (BitVec.ofNat 64 m))).s)).toNat), .int .u64 ((Wd.lo ((Pc.jump ⟨ss, si⟩ (Wd.of (BitVec.ofNat 64 m))).s)).toNat), .int .u64 ((Wd.hi si).toNat), .int .u64 ((Wd.lo si).toNat)])]) ⟨rfl, trivial⟩
        have F := Sx.Fr.add F (p9 t9)
        refine Sx.step_on rfl (Sx.d_store (i := 2) (xs := [.int .u64 ((Wd.hi ((Pc.jump ⟨ss, si⟩ (Wd.of (BitVec.ofNat 64 m))).s)).toNat), .int .u64 ((Wd.lo ((Pc.jump ⟨ss, si⟩ (Wd.of (BitVec.ofNat 64 m))).s)).toNat), .int .u64 ((Wd.hi si).toNat), .int .u64 ((Wd.lo si).toNat)]) (us := [.int .u64 ((Wd.hi ((Pc.jump ⟨ss, si⟩ (Wd.of (BitVec.ofNat 64 m))).s)).toNat), .int .u64 ((Wd.lo ((Pc.jump ⟨ss, si⟩ (Wd.of (BitVec.ofNat 64 m))).s)).toNat), .int .u64 ((Wd.hi si).toNat), .int .u64 ((Wd.lo si).toNat)]) sz_57 F H rfl rfl rfl rfl rfl rfl rfl (Nat.le_of_ble_eq_true rfl) rfl) ?_
        intro xv w' H
        exact ⟨(fun cv hc => by have h := Option.some.inj hc; cases h), ⟨g3, p9, (by show Sx.Own _ _ _ _; rw [show Inv.add L 10 9 = true from t9]; exact H)⟩⟩
      · show Sx.StepAt _ _ _ _ _ _ _ 11
        intro L A w up hun hd F ⟨g3, p9, H⟩
        have t9 : L 9 = true := hd 9 rfl
        have t10 : L 10 = true := hd 10 rfl
        rw [t9, t10] at H
        have F := Sx.Fr.to F (kv' := [(56, .int .i64 0)]) ⟨rfl, trivial⟩
        have F := Sx.Fr.add F (p9 t9)
        refine Sx.step_on rfl (Sx.d_move F (Or.inr rfl) rfl) ?_
        rintro xv w' ⟨hx, rfl⟩
        exact ⟨(fun cv hc => hx.trans (Option.some.inj (Option.some.inj hc))), ⟨g3, (fun h => (Sx.put_ne rfl _).trans (p9 h)), (by show Sx.Own _ _ _ _; rw [show Inv.add L 11 9 = true from t9, show Inv.add L 11 10 = true from t10]; exact H)⟩⟩
    · intro L A w hL F ⟨g3, p9, H⟩
      have t9 : L 9 = true := hL 9 rfl
      have t10 : L 10 = true := hL 10 rfl
      rw [t9, t10] at H
      have F := Sx.Fr.add F (p9 t9)
      have F := Sx.Fr.to F (kv' := [(0, .agg #[.int .u64 ((Wd.hi ss).toNat), .int .u64 ((Wd.lo ss).toNat), .int .u64 ((Wd.hi si).toNat), .int .u64 ((Wd.lo si).toNat)]), (1, .int .i64 many), (2, .int .u16 nn), (3, .pointer (some ⟨g1, 0, none⟩)), (6, .bool false), (14, .bool true), (15, .bool false), (40, .bool false), (42, .agg #[.int .u64 ((Wd.hi ss).toNat), .int .u64 ((Wd.lo ss).toNat), .int .u64 ((Wd.hi si).toNat), .int .u64 ((Wd.lo si).toNat)]), (43, .int .i64 many), (44, .tuple #[.slice none 0 0, .agg #[.int .u64 ((Wd.hi 0#128).toNat), .int .u64 ((Wd.lo 0#128).toNat), .int .u64 ((Wd.hi 0#128).toNat), .int .u64 ((Wd.lo 0#128).toNat)], .int .i64 1]), (41, .tuple #[.slice none 0 0, .agg #[.int .u64 ((Wd.hi 0#128).toNat), .int .u64 ((Wd.lo 0#128).toNat), .int .u64 ((Wd.hi 0#128).toNat), .int .u64 ((Wd.lo 0#128).toNat)], .int .i64 1]), (45, .slice none 0 0), (46, .agg #[.int .u64 ((Wd.hi 0#128).toNat), .int .u64 ((Wd.lo 0#128).toNat), .int .u64 ((Wd.hi 0#128).toNat), .int .u64 ((Wd.lo 0#128).toNat)]), (47, .int .i64 1), (8, .pointer (some ⟨g2, 0, none⟩)), (7, .slice none 0 0), (9, .int .i64 1), (10, .pointer (some ⟨g3, 0, none⟩)), (11, .int .i64 0)]) ⟨rfl, rfl, rfl, rfl, rfl, rfl, rfl, rfl, rfl, rfl, rfl, rfl, rfl, rfl, rfl, rfl, rfl, rfl, rfl, rfl, trivial⟩
      refine hK7 _ _ ?_
      refine Sx.seq (fun K8 hK8 => ?_)
      refine wp_block ?_
      refine Sx.seq (fun K9 hK9 => ?_)
      refine Sx.plain ?_
      refine Sx.sv F (Sx.d_load (i := 1) (xs := [.int .u64 ((Wd.hi ss).toNat), .int .u64 ((Wd.lo ss).toNat), .int .u64 ((Wd.hi si).toNat), .int .u64 ((Wd.lo si).toNat)]) rw_57 F H rfl rfl rfl rfl rfl) (Sx.wanted_none rfl _) rfl (by decide) (fun A F => ?_)
      refine Sx.sw F (Sx.d_call (vs := [.agg #[.int .u64 ((Wd.hi ss).toNat), .int .u64 ((Wd.lo ss).toNat), .int .u64 ((Wd.hi si).toNat), .int .u64 ((Wd.lo si).toNat)]]) (v := .bool true) if_38 F H rfl rfl (Calls.val (pright_c ss si _) rfl (congrArg Value.bool (ho)))) (Sx.wanted_none rfl _) rfl (by decide) (fun A w F H => ?_)
      refine Sx.sv F (Sx.d_un (v := .bool false) F rfl rfl rfl) (Sx.wanted_none rfl _) rfl (by decide) (fun A F => ?_)
      refine Sx.sv F (Sx.d_move F (Or.inr rfl) rfl) (Sx.wanted_none rfl _) rfl (by decide) (fun A F => ?_)
      refine Sx.nil ?_
      refine hK9 _ _ ?_
      refine Sx.condF F rfl ?_
      refine Sx.seq (fun K10 hK10 => ?_)
      have F := Sx.Fr.to F (kv' := [(0, .agg #[.int .u64 ((Wd.hi ss).toNat), .int .u64 ((Wd.lo ss).toNat), .int .u64 ((Wd.hi si).toNat), .int .u64 ((Wd.lo si).toNat)]), (1, .int .i64 many), (2, .int .u16 nn), (3, .pointer (some ⟨g1, 0, none⟩)), (6, .bool false), (14, .bool true), (15, .bool false), (40, .bool false), (42, .agg #[.int .u64 ((Wd.hi ss).toNat), .int .u64 ((Wd.lo ss).toNat), .int .u64 ((Wd.hi si).toNat), .int .u64 ((Wd.lo si).toNat)]), (43, .int .i64 many), (44, .tuple #[.slice none 0 0, .agg #[.int .u64 ((Wd.hi 0#128).toNat), .int .u64 ((Wd.lo 0#128).toNat), .int .u64 ((Wd.hi 0#128).toNat), .int .u64 ((Wd.lo 0#128).toNat)], .int .i64 1]), (41, .tuple #[.slice none 0 0, .agg #[.int .u64 ((Wd.hi 0#128).toNat), .int .u64 ((Wd.lo 0#128).toNat), .int .u64 ((Wd.hi 0#128).toNat), .int .u64 ((Wd.lo 0#128).toNat)], .int .i64 1]), (45, .slice none 0 0), (46, .agg #[.int .u64 ((Wd.hi 0#128).toNat), .int .u64 ((Wd.lo 0#128).toNat), .int .u64 ((Wd.hi 0#128).toNat), .int .u64 ((Wd.lo 0#128).toNat)]), (47, .int .i64 1), (8, .pointer (some ⟨g2, 0, none⟩)), (7, .slice none 0 0), (9, .int .i64 1), (10, .pointer (some ⟨g3, 0, none⟩)), (11, .int .i64 0), (58, .agg #[.int .u64 ((Wd.hi ss).toNat), .int .u64 ((Wd.lo ss).toNat), .int .u64 ((Wd.hi si).toNat), .int .u64 ((Wd.lo si).toNat)]), (59, .bool true), (60, .bool false), (57, .bool false)]) ⟨rfl, rfl, rfl, rfl, rfl, rfl, rfl, rfl, rfl, rfl, rfl, rfl, rfl, rfl, rfl, rfl, rfl, rfl, rfl, rfl, rfl, rfl, rfl, rfl, trivial⟩
      refine Sx.drawn F (by kernel_rfl) (by kernel_rfl) (by kernel_rfl) [some (.int .i64 0), some (.bool false), some (.bool false), some (.agg #[.int .u64 ((Wd.hi ((Pc.jump ⟨ss, si⟩ (Wd.of (BitVec.ofNat 64 m))).s)).toNat), .int .u64 ((Wd.lo ((Pc.jump ⟨ss, si⟩ (Wd.of (BitVec.ofNat 64 m))).s)).toNat), .int .u64 ((Wd.hi si).toNat), .int .u64 ((Wd.lo si).toNat)]), some (.agg #[.int .u64 ((Wd.hi ((Pc.jump ⟨ss, si⟩ (Wd.of (BitVec.ofNat 64 m))).s)).toNat), .int .u64 ((Wd.lo ((Pc.jump ⟨ss, si⟩ (Wd.of (BitVec.ofNat 64 m))).s)).toNat), .int .u64 ((Wd.hi si).toNat), .int .u64 ((Wd.lo si).toNat)]), some (.agg #[.int .u64 ((Wd.hi ss).toNat), .int .u64 ((Wd.lo ss).toNat), .int .u64 ((Wd.hi si).toNat), .int .u64 ((Wd.lo si).toNat)]), some (.agg #[.int .u64 ((Wd.hi ss).toNat), .int .u64 ((Wd.lo ss).toNat), .int .u64 ((Wd.hi si).toNat), .int .u64 ((Wd.lo si).toNat)]), some (.int .u16 nn), some (.int .u16 m), some (.int .i64 m), some (.agg #[.int .u64 ((Wd.hi (Pc.its si m ss)).toNat), .int .u64 ((Wd.lo (Pc.its si m ss)).toNat), .int .u64 ((Wd.hi si).toNat), .int .u64 ((Wd.lo si).toNat)]), some (.bool false), some (.bool false), some (.bool false)] (fun L A w => Sx.Own w0 w [(true, g2, [.int .u64 ((Wd.hi 0#128).toNat), .int .u64 ((Wd.lo 0#128).toNat), .int .u64 ((Wd.hi 0#128).toNat), .int .u64 ((Wd.lo 0#128).toNat)]), (true, g1, [.int .u64 ((Wd.hi ss).toNat), .int .u64 ((Wd.lo ss).toNat), .int .u64 ((Wd.hi si).toNat), .int .u64 ((Wd.lo si).toNat)]), (true, g3, [.int .u64 ((Wd.hi ((Pc.jump ⟨ss, si⟩ (Wd.of (BitVec.ofNat 64 m))).s)).toNat), .int .u64 ((Wd.lo ((Pc.jump ⟨ss, si⟩ (Wd.of (BitVec.ofNat 64 m))).s)).toNat), .int .u64 ((Wd.hi si).toNat), .int .u64 ((Wd.lo si).toNat)])] []) H.drew ?_ ?_
      · refine ⟨?_, ?_, ?_, ?_, ?_, ?_, ?_, ?_, ?_, ?_, ?_, ?_, ?_, ?_, trivial⟩
        · show Sx.StepAt _ _ _ _ _ _ _ 0
          intro L A w up hun hd F H
          have F := Sx.Fr.to F (kv' := [(11, .int .i64 0)]) ⟨rfl, trivial⟩
          refine Sx.step_on rfl (Sx.d_move F (Or.inl rfl) rfl) ?_
          rintro xv w' ⟨hx, rfl⟩
          exact ⟨(fun cv hc => hx.trans (Option.some.inj (Option.some.inj hc))), H⟩
        · show Sx.StepAt _ _ _ _ _ _ _ 1
          intro L A w up hun hd F H
          have F := Sx.Fr.to F (kv' := [(84, .int .i64 0)]) ⟨rfl, trivial⟩
          refine Sx.step_on rfl (Sx.d_bin (v := .bool false) F rfl rfl rfl (Sx.i_ne (by decide))) ?_
          rintro xv w' ⟨hx, rfl⟩
          exact ⟨(fun cv hc => hx.trans (Option.some.inj (Option.some.inj hc))), H⟩
        · show Sx.StepAt _ _ _ _ _ _ _ 2
          intro L A w up hun hd F H
          have F := Sx.Fr.to F (kv' := [(85, .bool false)]) ⟨rfl, trivial⟩
          refine Sx.step_on rfl (Sx.d_move F (Or.inl rfl) rfl) ?_
          rintro xv w' ⟨hx, rfl⟩
          exact ⟨(fun cv hc => hx.trans (Option.some.inj (Option.some.inj hc))), H⟩
        · show Sx.StepAt _ _ _ _ _ _ _ 3
          intro L A w up hun hd F H
          have F := Sx.Fr.to F (kv' := [(10, .pointer (some ⟨g3, 0, none⟩)), (86, .bool false)]) ⟨rfl, rfl, trivial⟩
          refine Sx.step_ong rfl (Sx.guard_known (d := 86) (b := false) F rfl rfl) rfl (Sx.d_load (i := 2) (xs := [.int .u64 ((Wd.hi ((Pc.jump ⟨ss, si⟩ (Wd.of (BitVec.ofNat 64 m))).s)).toNat), .int .u64 ((Wd.lo ((Pc.jump ⟨ss, si⟩ (Wd.of (BitVec.ofNat 64 m))).s)).toNat), .int .u64 ((Wd.hi si).toNat), .int .u64 ((Wd.lo si).toNat)]) rw_57 F H rfl rfl rfl rfl rfl) ?_
          rintro xv w' ⟨hx, rfl⟩
          exact ⟨(fun cv hc => hx.trans (Option.some.inj (Option.some.inj hc))), H⟩
        · show Sx.StepAt _ _ _ _ _ _ _ 4
          intro L A w up hun hd F H
          have F := Sx.Fr.to F (kv' := [(87, .agg #[.int .u64 ((Wd.hi ((Pc.jump ⟨ss, si⟩ (Wd.of (BitVec.ofNat 64 m))).s)).toNat), .int .u64 ((Wd.lo ((Pc.jump ⟨ss, si⟩ (Wd.of (BitVec.ofNat 64 m))).s)).toNat), .int .u64 ((Wd.hi si).toNat), .int .u64 ((Wd.lo si).toNat)]), (86, .bool false)]) ⟨rfl, rfl, trivial⟩
          refine Sx.step_ong rfl (Sx.guard_known (d := 86) (b := false) F rfl rfl) rfl (Sx.d_call (vs := [.agg #[.int .u64 ((Wd.hi ((Pc.jump ⟨ss, si⟩ (Wd.of (BitVec.ofNat 64 m))).s)).toNat), .int .u64 ((Wd.lo ((Pc.jump ⟨ss, si⟩ (Wd.of (BitVec.ofNat 64 m))).s)).toNat), .int .u64 ((Wd.hi si).toNat), .int .u64 ((Wd.lo si).toNat)]]) (v := .agg #[.int .u64 ((Wd.hi ((Pc.jump ⟨ss, si⟩ (Wd.of (BitVec.ofNat 64 m))).s)).toNat), .int .u64 ((Wd.lo ((Pc.jump ⟨ss, si⟩ (Wd.of (BitVec.ofNat 64 m))).s)).toNat), .int .u64 ((Wd.hi si).toNat), .int .u64 ((Wd.lo si).toNat)]) if_35 F H rfl rfl (own10_c ((Pc.jump ⟨ss, si⟩ (Wd.of (BitVec.ofNat 64 m))).s) si _)) ?_
          rintro xv w' ⟨hx, H⟩
          exact ⟨(fun cv hc => hx.trans (Option.some.inj (Option.some.inj hc))), H⟩
        · show Sx.StepAt _ _ _ _ _ _ _ 5
          intro L A w up hun hd F H
          have F := Sx.Fr.to F (kv' := [(3, .pointer (some ⟨g1, 0, none⟩)), (86, .bool false)]) ⟨rfl, rfl, trivial⟩
          refine Sx.step_ong rfl (Sx.guard_known (d := 86) (b := false) F rfl rfl) rfl (Sx.d_load (i := 1) (xs := [.int .u64 ((Wd.hi ss).toNat), .int .u64 ((Wd.lo ss).toNat), .int .u64 ((Wd.hi si).toNat), .int .u64 ((Wd.lo si).toNat)]) rw_57 F H rfl rfl rfl rfl rfl) ?_
          rintro xv w' ⟨hx, rfl⟩
          exact ⟨(fun cv hc => hx.trans (Option.some.inj (Option.some.inj hc))), H⟩
        · show Sx.StepAt _ _ _ _ _ _ _ 6
          intro L A w up hun hd F H
          have F := Sx.Fr.to F (kv' := [(89, .agg #[.int .u64 ((Wd.hi ss).toNat), .int .u64 ((Wd.lo ss).toNat), .int .u64 ((Wd.hi si).toNat), .int .u64 ((Wd.lo si).toNat)]), (86, .bool false)]) ⟨rfl, rfl, trivial⟩
          refine Sx.step_ong rfl (Sx.guard_known (d := 86) (b := false) F rfl rfl) rfl (Sx.d_call (vs := [.agg #[.int .u64 ((Wd.hi ss).toNat), .int .u64 ((Wd.lo ss).toNat), .int .u64 ((Wd.hi si).toNat), .int .u64 ((Wd.lo si).toNat)]]) (v := .agg #[.int .u64 ((Wd.hi ss).toNat), .int .u64 ((Wd.lo ss).toNat), .int .u64 ((Wd.hi si).toNat), .int .u64 ((Wd.lo si).toNat)]) if_35 F H rfl rfl (own10_c ss si _)) ?_
          rintro xv w' ⟨hx, H⟩
          exact ⟨(fun cv hc => hx.trans (Option.some.inj (Option.some.inj hc))), H⟩
        · show Sx.StepAt _ _ _ _ _ _ _ 7
          intro L A w up hun hd F H
          have F := Sx.Fr.to F (kv' := [(2, .int .u16 nn), (86, .bool false)]) ⟨rfl, rfl, trivial⟩
          refine Sx.step_ong rfl (Sx.guard_known (d := 86) (b := false) F rfl rfl) rfl (Sx.d_move F (Or.inl rfl) rfl) ?_
          rintro xv w' ⟨hx, rfl⟩
          exact ⟨(fun cv hc => hx.trans (Option.some.inj (Option.some.inj hc))), H⟩
        · show Sx.StepAt _ _ _ _ _ _ _ 8
          intro L A w up hun hd F H
          have F := Sx.Fr.to F (kv' := [(91, .int .u16 nn), (86, .bool false)]) ⟨rfl, rfl, trivial⟩
          refine Sx.step_ong rfl (Sx.guard_known (d := 86) (b := false) F rfl rfl) rfl (Sx.d_bin (v := .int .u16 m) F rfl rfl rfl (Sx.i_rem hm (by decide))) ?_
          rintro xv w' ⟨hx, rfl⟩
          exact ⟨(fun cv hc => hx.trans (Option.some.inj (Option.some.inj hc))), H⟩
        · show Sx.StepAt _ _ _ _ _ _ _ 9
          intro L A w up hun hd F H
          have F := Sx.Fr.to F (kv' := [(92, .int .u16 m), (86, .bool false)]) ⟨rfl, rfl, trivial⟩
          refine Sx.step_ong rfl (Sx.guard_known (d := 86) (b := false) F rfl rfl) rfl (Sx.d_conv (v := .int .i64 m) F rfl rfl (Sx.c_u16_i64 m (by omega))) ?_
          rintro xv w' ⟨hx, rfl⟩
          exact ⟨(fun cv hc => hx.trans (Option.some.inj (Option.some.inj hc))), H⟩
        · show Sx.StepAt _ _ _ _ _ _ _ 10
          intro L A w up hun hd F H
          have F := Sx.Fr.to F (kv' := [(90, .agg #[.int .u64 ((Wd.hi ss).toNat), .int .u64 ((Wd.lo ss).toNat), .int .u64 ((Wd.hi si).toNat), .int .u64 ((Wd.lo si).toNat)]), (93, .int .i64 m), (86, .bool false)]) ⟨rfl, rfl, rfl, trivial⟩
          refine Sx.step_ong rfl (Sx.guard_known (d := 86) (b := false) F rfl rfl) rfl (Sx.d_call (vs := [.agg #[.int .u64 ((Wd.hi ss).toNat), .int .u64 ((Wd.lo ss).toNat), .int .u64 ((Wd.hi si).toNat), .int .u64 ((Wd.lo si).toNat)], .int .i64 m]) (v := .agg #[.int .u64 ((Wd.hi (Pc.its si m ss)).toNat), .int .u64 ((Wd.lo (Pc.its si m ss)).toNat), .int .u64 ((Wd.hi si).toNat), .int .u64 ((Wd.lo si).toNat)]) if_41 F H rfl rfl (rjump10_c ss si m (by omega) _)) ?_
          rintro xv w' ⟨hx, H⟩
          exact ⟨(fun cv hc => hx.trans (Option.some.inj (Option.some.inj hc))), H⟩
        · show Sx.StepAt _ _ _ _ _ _ _ 11
          intro L A w up hun hd F H
          have F := Sx.Fr.to F (kv' := [(88, .agg #[.int .u64 ((Wd.hi ((Pc.jump ⟨ss, si⟩ (Wd.of (BitVec.ofNat 64 m))).s)).toNat), .int .u64 ((Wd.lo ((Pc.jump ⟨ss, si⟩ (Wd.of (BitVec.ofNat 64 m))).s)).toNat), .int .u64 ((Wd.hi si).toNat), .int .u64 ((Wd.lo si).toNat)]), (94, .agg #[.int .u64 ((Wd.hi (Pc.its si m ss)).toNat), .int .u64 ((Wd.lo (Pc.its si m ss)).toNat), .int .u64 ((Wd.hi si).toNat), .int .u64 ((Wd.lo si).toNat)]), (86, .bool false)]) ⟨rfl, rfl, rfl, trivial⟩
          refine Sx.step_ong rfl (Sx.guard_known (d := 86) (b := false) F rfl rfl) rfl (Sx.d_bin (v := .bool false) F rfl rfl rfl (Sx.i_neQ (by rw [show Sx.eqbM ((Pc.jump ⟨ss, si⟩ (Wd.of (BitVec.ofNat 64 m))).s) si (Pc.its si m ss) si = true from Sx.eqbM_true (Pc.jump_few ss si m (by omega)) rfl]; rfl))) ?_
          rintro xv w' ⟨hx, rfl⟩
          exact ⟨(fun cv hc => hx.trans (Option.some.inj (Option.some.inj hc))), H⟩
        · show Sx.StepAt _ _ _ _ _ _ _ 12
          intro L A w up hun hd F H
          have F := Sx.Fr.to F (kv' := [(86, .bool false), (95, .bool false)]) ⟨rfl, rfl, trivial⟩
          refine Sx.step_on rfl (Sx.d_pickF (v := .bool false) F rfl rfl rfl) ?_
          rintro xv w' ⟨hx, rfl⟩
          exact ⟨(fun cv hc => hx.trans (Option.some.inj (Option.some.inj hc))), H⟩
        · show Sx.StepAt _ _ _ _ _ _ _ 13
          intro L A w up hun hd F H
          have F := Sx.Fr.to F (kv' := [(96, .bool false)]) ⟨rfl, trivial⟩
          refine Sx.step_on rfl (Sx.d_move F (Or.inr rfl) rfl) ?_
          rintro xv w' ⟨hx, rfl⟩
          exact ⟨(fun cv hc => hx.trans (Option.some.inj (Option.some.inj hc))), H⟩
      · intro L A w hL F H
        have F := Sx.Fr.to F (kv' := [(0, .agg #[.int .u64 ((Wd.hi ss).toNat), .int .u64 ((Wd.lo ss).toNat), .int .u64 ((Wd.hi si).toNat), .int .u64 ((Wd.lo si).toNat)]), (1, .int .i64 many), (2, .int .u16 nn), (3, .pointer (some ⟨g1, 0, none⟩)), (6, .bool false), (14, .bool true), (15, .bool false), (40, .bool false), (42, .agg #[.int .u64 ((Wd.hi ss).toNat), .int .u64 ((Wd.lo ss).toNat), .int .u64 ((Wd.hi si).toNat), .int .u64 ((Wd.lo si).toNat)]), (43, .int .i64 many), (44, .tuple #[.slice none 0 0, .agg #[.int .u64 ((Wd.hi 0#128).toNat), .int .u64 ((Wd.lo 0#128).toNat), .int .u64 ((Wd.hi 0#128).toNat), .int .u64 ((Wd.lo 0#128).toNat)], .int .i64 1]), (41, .tuple #[.slice none 0 0, .agg #[.int .u64 ((Wd.hi 0#128).toNat), .int .u64 ((Wd.lo 0#128).toNat), .int .u64 ((Wd.hi 0#128).toNat), .int .u64 ((Wd.lo 0#128).toNat)], .int .i64 1]), (45, .slice none 0 0), (46, .agg #[.int .u64 ((Wd.hi 0#128).toNat), .int .u64 ((Wd.lo 0#128).toNat), .int .u64 ((Wd.hi 0#128).toNat), .int .u64 ((Wd.lo 0#128).toNat)]), (47, .int .i64 1), (8, .pointer (some ⟨g2, 0, none⟩)), (7, .slice none 0 0), (9, .int .i64 1), (10, .pointer (some ⟨g3, 0, none⟩)), (11, .int .i64 0), (58, .agg #[.int .u64 ((Wd.hi ss).toNat), .int .u64 ((Wd.lo ss).toNat), .int .u64 ((Wd.hi si).toNat), .int .u64 ((Wd.lo si).toNat)]), (59, .bool true), (60, .bool false), (57, .bool false), (83, .bool false)]) ⟨rfl, rfl, rfl, rfl, rfl, rfl, rfl, rfl, rfl, rfl, rfl, rfl, rfl, rfl, rfl, rfl, rfl, rfl, rfl, rfl, rfl, rfl, rfl, rfl, rfl, trivial⟩
        refine hK10 _ _ ?_
        refine Sx.condF F rfl ?_
        refine Sx.seq (fun K11 hK11 => ?_)
        refine Sx.plain ?_
        refine Sx.sv F (Sx.d_move F (Or.inl rfl) rfl) (Sx.wanted_none rfl _) rfl (by decide) (fun A F => ?_)
        refine Sx.sv F (Sx.d_bin (v := .bool true) F rfl rfl rfl (Sx.i_lt (decide_eq_true hy))) (Sx.wanted_none rfl _) rfl (by decide) (fun A F => ?_)
        refine Sx.sv F (Sx.d_move F (Or.inl rfl) rfl) (Sx.wanted_none rfl _) rfl (by decide) (fun A F => ?_)
        refine Sx.su F (Sx.wanted_off rfl (Sx.guard_known (d := 100) (b := true) F rfl rfl) rfl) rfl (by decide) (fun A F => ?_)
        refine Sx.su F (Sx.wanted_off rfl (Sx.guard_known (d := 100) (b := true) F rfl rfl) rfl) rfl (by decide) (fun A F => ?_)
        refine Sx.sv F (Sx.d_pickT (v := .bool true) F rfl rfl rfl) (Sx.wanted_none rfl _) rfl (by decide) (fun A F => ?_)
        refine Sx.sv F (Sx.d_move F (Or.inr rfl) rfl) (Sx.wanted_none rfl _) rfl (by decide) (fun A F => ?_)
        refine Sx.nil ?_
        refine hK11 _ _ ?_
        refine Sx.condT F rfl ?_
        refine Sx.seq (fun K12 hK12 => ?_)
        refine Sx.plain ?_
        refine Sx.sv F (Sx.d_move F (Or.inl rfl) rfl) (Sx.wanted_none rfl _) rfl (by decide) (fun A F => ?_)
        refine Sx.sv F (Sx.d_bin (v := .bool true) F rfl rfl rfl (Sx.i_eq (by decide))) (Sx.wanted_none rfl _) rfl (by decide) (fun A F => ?_)
        refine Sx.sv F (Sx.d_move F (Or.inl rfl) rfl) (Sx.wanted_none rfl _) rfl (by decide) (fun A F => ?_)
        refine Sx.sv F (Sx.d_move F (Or.inl rfl) rfl) (Sx.wanted_on rfl (Sx.guard_known (d := 106) (b := true) F rfl rfl) rfl) rfl (by decide) (fun A F => ?_)
        have H := Sx.Own.nilR H 22 1
        refine Sx.sv F (Sx.d_len (i := 0) el_67 F H rfl rfl rfl) (Sx.wanted_on rfl (Sx.guard_known (d := 106) (b := true) F rfl rfl) rfl) rfl (by decide) (fun A F => ?_)
        refine Sx.sv F (Sx.d_bin (v := .bool true) F rfl rfl rfl (Sx.i_eq (by decide))) (Sx.wanted_on rfl (Sx.guard_known (d := 106) (b := true) F rfl rfl) rfl) rfl (by decide) (fun A F => ?_)
        refine Sx.sv F (Sx.d_pickT (v := .bool true) F rfl rfl rfl) (Sx.wanted_none rfl _) rfl (by decide) (fun A F => ?_)
        refine Sx.sv F (Sx.d_move F (Or.inl rfl) rfl) (Sx.wanted_none rfl _) rfl (by decide) (fun A F => ?_)
        refine Sx.sv F (Sx.d_load (i := 0) (xs := [.int .u64 ((Wd.hi 0#128).toNat), .int .u64 ((Wd.lo 0#128).toNat), .int .u64 ((Wd.hi 0#128).toNat), .int .u64 ((Wd.lo 0#128).toNat)]) rw_57 F H rfl rfl rfl rfl rfl) (Sx.wanted_on rfl (Sx.guard_known (d := 111) (b := true) F rfl rfl) rfl) rfl (by decide) (fun A F => ?_)
        refine Sx.sv F (Sx.d_build (qs := #[]) (v := .agg #[.int .u64 ((Wd.hi 0#128).toNat), .int .u64 ((Wd.lo 0#128).toNat), .int .u64 ((Wd.hi 0#128).toNat), .int .u64 ((Wd.lo 0#128).toNat)]) F rfl rfl (by kernel_rfl)) (Sx.wanted_on rfl (Sx.guard_known (d := 111) (b := true) F rfl rfl) rfl) rfl (by decide) (fun A F => ?_)
        refine Sx.sv F (Sx.d_bin (v := .bool true) F rfl rfl rfl (Sx.i_eqP (Sx.eqbM_true rfl rfl))) (Sx.wanted_on rfl (Sx.guard_known (d := 111) (b := true) F rfl rfl) rfl) rfl (by decide) (fun A F => ?_)
        refine Sx.sv F (Sx.d_pickT (v := .bool true) F rfl rfl rfl) (Sx.wanted_none rfl _) rfl (by decide) (fun A F => ?_)
        refine Sx.sv F (Sx.d_move F (Or.inr rfl) rfl) (Sx.wanted_none rfl _) rfl (by decide) (fun A F => ?_)
        refine Sx.nil ?_
        refine hK12 _ _ ?_
        refine wp_ret ?_
        try dsimp only [Exit.then, Exit.inBlock, Exit.jump]
        refine Sx.ret1 F Try.results7 (Sx.res_tmp (v := .bool true) F rfl) ⟨?_, H.below⟩
        rfl
set_option maxRecDepth 100000 in
theorem pcgTells_hi (ss si : BitVec 128) (nn : Nat) (hnn : nn < 65536) (many : Int) (ho : Af.odd si = true) (hy : 256 < many) (w0 : World) : Calls Try.prog 7 #[.agg #[.int .u64 ((Wd.hi ss).toNat), .int .u64 ((Wd.lo ss).toNat), .int .u64 ((Wd.hi si).toNat), .int .u64 ((Wd.lo si).toNat)], .int .i64 many, .int .u16 nn] w0 fun e w' => e = .returned (.bool true) ∧ Below w0.heap.size w0 w' := by
  obtain ⟨m, hm⟩ : ∃ m, nn % 300 = m := ⟨_, rfl⟩
  have hm1 : m < 300 := by omega
  refine Sx.enter (args := [.agg #[.int .u64 ((Wd.hi ss).toNat), .int .u64 ((Wd.lo ss).toNat), .int .u64 ((Wd.hi si).toNat), .int .u64 ((Wd.lo si).toNat)], .int .i64 many, .int .u16 nn]) Try.func7 rfl Try.ntmps7 (Nat.le_of_ble_eq_true rfl) (fun A F => ?_)
  have H := Sx.Own.start w0
  refine Sx.seq (fun K1 hK1 => ?_)
  refine Sx.plain ?_
  refine Sx.sb F (Sx.d_box F H rfl rfl [.int .u64 ((Wd.hi ss).toNat), .int .u64 ((Wd.lo ss).toNat), .int .u64 ((Wd.hi si).toNat), .int .u64 ((Wd.lo si).toNat)] rfl) (Sx.wanted_none rfl _) rfl (by decide) (fun g1 A w F H => ?_)
  refine Sx.sv F (Sx.d_move F (Or.inr rfl) rfl) (Sx.wanted_none rfl _) rfl (by decide) (fun A F => ?_)
  refine Sx.nil ?_
  refine hK1 _ _ ?_
  refine Sx.seq (fun K2 hK2 => ?_)
  refine Sx.seq (fun K3 hK3 => ?_)
  refine Sx.plain ?_
  refine Sx.sw F (Sx.d_call (vs := []) (v := .bool true) if_32 F H rfl rfl (awake10_c _)) (Sx.wanted_none rfl _) rfl (by decide) (fun A w F H => ?_)
  refine Sx.sv F (Sx.d_un (v := .bool false) F rfl rfl rfl) (Sx.wanted_none rfl _) rfl (by decide) (fun A F => ?_)
  refine Sx.nil ?_
  refine hK3 _ _ ?_
  refine Sx.condF F rfl ?_
  refine wp_skip ?_
  refine hK2 _ _ ?_
  refine Sx.seq (fun K4 hK4 => ?_)
  refine Sx.seq (fun K5 hK5 => ?_)
  have F := Sx.Fr.to F (kv' := [(0, .agg #[.int .u64 ((Wd.hi ss).toNat), .int .u64 ((Wd.lo ss).toNat), .int .u64 ((Wd.hi si).toNat), .int .u64 ((Wd.lo si).toNat)]), (1, .int .i64 many), (2, .int .u16 nn), (3, .pointer (some ⟨g1, 0, none⟩)), (6, .bool false), (14, .bool true), (15, .bool false)]) ⟨rfl, rfl, rfl, rfl, rfl, rfl, rfl, trivial⟩
  refine Sx.drawn F (by kernel_rfl) (by kernel_rfl) (by kernel_rfl) [some (.agg #[.int .u64 ((Wd.hi ss).toNat), .int .u64 ((Wd.lo ss).toNat), .int .u64 ((Wd.hi si).toNat), .int .u64 ((Wd.lo si).toNat)]), some (.int .u64 ((Pc.word ss).toNat)), some (.agg #[.int .u64 ((Wd.hi ss).toNat), .int .u64 ((Wd.lo ss).toNat), .int .u64 ((Wd.hi si).toNat), .int .u64 ((Wd.lo si).toNat)]), some (.agg #[.int .u64 ((Wd.hi ss).toNat), .int .u64 ((Wd.lo ss).toNat), .int .u64 ((Wd.hi si).toNat), .int .u64 ((Wd.lo si).toNat)]), some (.int .u64 ((Pc.word ss).toNat)), some (.bool false), some (.bool false), some (.agg #[.int .u64 ((Wd.hi ss).toNat), .int .u64 ((Wd.lo ss).toNat), .int .u64 ((Wd.hi si).toNat), .int .u64 ((Wd.lo si).toNat)]), some (.agg #[.int .u64 ((Wd.hi ((Pc.step ⟨ss, si⟩).s)).toNat), .int .u64 ((Wd.lo ((Pc.step ⟨ss, si⟩).s)).toNat), .int .u64 ((Wd.hi si).toNat), .int .u64 ((Wd.lo si).toNat)]), some (.agg #[.int .u64 ((Wd.hi ((Pc.step ⟨ss, si⟩).s)).toNat), .int .u64 ((Wd.lo ((Pc.step ⟨ss, si⟩).s)).toNat), .int .u64 ((Wd.hi si).toNat), .int .u64 ((Wd.lo si).toNat)]), some (.agg #[.int .u64 ((Wd.hi ss).toNat), .int .u64 ((Wd.lo ss).toNat), .int .u64 ((Wd.hi si).toNat), .int .u64 ((Wd.lo si).toNat)]), some (.agg #[.int .u64 ((Wd.hi ss).toNat), .int .u64 ((Wd.lo ss).toNat), .int .u64 ((Wd.hi si).toNat), .int .u64 ((Wd.lo si).toNat)]), some (.agg #[.int .u64 ((Wd.hi ((Pc.step ⟨ss, si⟩).s)).toNat), .int .u64 ((Wd.lo ((Pc.step ⟨ss, si⟩).s)).toNat), .int .u64 ((Wd.hi si).toNat), .int .u64 ((Wd.lo si).toNat)]), some (.bool false), some (.bool false), some (.bool false), some (.agg #[.int .u64 ((Wd.hi ss).toNat), .int .u64 ((Wd.lo ss).toNat), .int .u64 ((Wd.hi si).toNat), .int .u64 ((Wd.lo si).toNat)]), some (.bool true), some (.pointer (some ⟨g1, 2, none⟩)), some (.pointer (some ⟨g1, 3, none⟩)), some (.int .u64 ((Wd.lo si).toNat)), some (.int .u64 (((Wd.lo si) % 2#64).toNat)), some (.bool true), some (.bool false), some (.bool false)] (fun L A w => Sx.Own w0 w [(true, g1, [.int .u64 ((Wd.hi ss).toNat), .int .u64 ((Wd.lo ss).toNat), .int .u64 ((Wd.hi si).toNat), .int .u64 ((Wd.lo si).toNat)])] []) H.drew ?_ ?_
  · refine ⟨?_, ?_, ?_, ?_, ?_, ?_, ?_, ?_, ?_, ?_, ?_, ?_, ?_, ?_, ?_, ?_, ?_, ?_, ?_, ?_, ?_, ?_, ?_, ?_, ?_, trivial⟩
    · show Sx.StepAt _ _ _ _ _ _ _ 0
      intro L A w up hun hd F H
      have F := Sx.Fr.to F (kv' := [(3, .pointer (some ⟨g1, 0, none⟩))]) ⟨rfl, trivial⟩
      refine Sx.step_on rfl (Sx.d_load (i := 0) (xs := [.int .u64 ((Wd.hi ss).toNat), .int .u64 ((Wd.lo ss).toNat), .int .u64 ((Wd.hi si).toNat), .int .u64 ((Wd.lo si).toNat)]) rw_57 F H rfl rfl rfl rfl rfl) ?_
      rintro xv w' ⟨hx, rfl⟩
      exact ⟨(fun cv hc => hx.trans (Option.some.inj (Option.some.inj hc))), H⟩
    · show Sx.StepAt _ _ _ _ _ _ _ 1
      intro L A w up hun hd F H
      have F := Sx.Fr.to F (kv' := [(16, .agg #[.int .u64 ((Wd.hi ss).toNat), .int .u64 ((Wd.lo ss).toNat), .int .u64 ((Wd.hi si).toNat), .int .u64 ((Wd.lo si).toNat)])]) ⟨rfl, trivial⟩
      refine Sx.step_on rfl (Sx.d_call (vs := [.agg #[.int .u64 ((Wd.hi ss).toNat), .int .u64 ((Wd.lo ss).toNat), .int .u64 ((Wd.hi si).toNat), .int .u64 ((Wd.lo si).toNat)]]) (v := .int .u64 ((Pc.word ss).toNat)) if_33 F H rfl rfl (pword_c ss si _)) ?_
      rintro xv w' ⟨hx, H⟩
      exact ⟨(fun cv hc => hx.trans (Option.some.inj (Option.some.inj hc))), H⟩
    · show Sx.StepAt _ _ _ _ _ _ _ 2
      intro L A w up hun hd F H
      have F := Sx.Fr.to F (kv' := [(3, .pointer (some ⟨g1, 0, none⟩))]) ⟨rfl, trivial⟩
      refine Sx.step_on rfl (Sx.d_load (i := 0) (xs := [.int .u64 ((Wd.hi ss).toNat), .int .u64 ((Wd.lo ss).toNat), .int .u64 ((Wd.hi si).toNat), .int .u64 ((Wd.lo si).toNat)]) rw_57 F H rfl rfl rfl rfl rfl) ?_
      rintro xv w' ⟨hx, rfl⟩
      exact ⟨(fun cv hc => hx.trans (Option.some.inj (Option.some.inj hc))), H⟩
    · show Sx.StepAt _ _ _ _ _ _ _ 3
      intro L A w up hun hd F H
      have F := Sx.Fr.to F (kv' := [(18, .agg #[.int .u64 ((Wd.hi ss).toNat), .int .u64 ((Wd.lo ss).toNat), .int .u64 ((Wd.hi si).toNat), .int .u64 ((Wd.lo si).toNat)])]) ⟨rfl, trivial⟩
      refine Sx.step_on rfl (Sx.d_call (vs := [.agg #[.int .u64 ((Wd.hi ss).toNat), .int .u64 ((Wd.lo ss).toNat), .int .u64 ((Wd.hi si).toNat), .int .u64 ((Wd.lo si).toNat)]]) (v := .agg #[.int .u64 ((Wd.hi ss).toNat), .int .u64 ((Wd.lo ss).toNat), .int .u64 ((Wd.hi si).toNat), .int .u64 ((Wd.lo si).toNat)]) if_35 F H rfl rfl (own10_c ss si _)) ?_
      rintro xv w' ⟨hx, H⟩
      exact ⟨(fun cv hc => hx.trans (Option.some.inj (Option.some.inj hc))), H⟩
    · show Sx.StepAt _ _ _ _ _ _ _ 4
      intro L A w up hun hd F H
      have F := Sx.Fr.to F (kv' := [(19, .agg #[.int .u64 ((Wd.hi ss).toNat), .int .u64 ((Wd.lo ss).toNat), .int .u64 ((Wd.hi si).toNat), .int .u64 ((Wd.lo si).toNat)])]) ⟨rfl, trivial⟩
      refine Sx.step_on rfl (Sx.d_call (vs := [.agg #[.int .u64 ((Wd.hi ss).toNat), .int .u64 ((Wd.lo ss).toNat), .int .u64 ((Wd.hi si).toNat), .int .u64 ((Wd.lo si).toNat)]]) (v := .int .u64 ((Pc.word ss).toNat)) if_34 F H rfl rfl (rword10_c ss si _)) ?_
      rintro xv w' ⟨hx, H⟩
      exact ⟨(fun cv hc => hx.trans (Option.some.inj (Option.some.inj hc))), H⟩
    · show Sx.StepAt _ _ _ _ _ _ _ 5
      intro L A w up hun hd F H
      have F := Sx.Fr.to F (kv' := [(17, .int .u64 ((Pc.word ss).toNat)), (20, .int .u64 ((Pc.word ss).toNat))]) ⟨rfl, rfl, trivial⟩
      refine Sx.step_on rfl (Sx.d_bin (v := .bool false) F rfl rfl rfl (Sx.i_ne (by simp))) ?_
      rintro xv w' ⟨hx, rfl⟩
      exact ⟨(fun cv hc => hx.trans (Option.some.inj (Option.some.inj hc))), H⟩
    · show Sx.StepAt _ _ _ _ _ _ _ 6
      intro L A w up hun hd F H
      have F := Sx.Fr.to F (kv' := [(21, .bool false)]) ⟨rfl, trivial⟩
      refine Sx.step_on rfl (Sx.d_move F (Or.inl rfl) rfl) ?_
      rintro xv w' ⟨hx, rfl⟩
      exact ⟨(fun cv hc => hx.trans (Option.some.inj (Option.some.inj hc))), H⟩
    · show Sx.StepAt _ _ _ _ _ _ _ 7
      intro L A w up hun hd F H
      have F := Sx.Fr.to F (kv' := [(3, .pointer (some ⟨g1, 0, none⟩)), (22, .bool false)]) ⟨rfl, rfl, trivial⟩
      refine Sx.step_ong rfl (Sx.guard_known (d := 22) (b := false) F rfl rfl) rfl (Sx.d_load (i := 0) (xs := [.int .u64 ((Wd.hi ss).toNat), .int .u64 ((Wd.lo ss).toNat), .int .u64 ((Wd.hi si).toNat), .int .u64 ((Wd.lo si).toNat)]) rw_57 F H rfl rfl rfl rfl rfl) ?_
      rintro xv w' ⟨hx, rfl⟩
      exact ⟨(fun cv hc => hx.trans (Option.some.inj (Option.some.inj hc))), H⟩
    · show Sx.StepAt _ _ _ _ _ _ _ 8
      intro L A w up hun hd F H
      have F := Sx.Fr.to F (kv' := [(23, .agg #[.int .u64 ((Wd.hi ss).toNat), .int .u64 ((Wd.lo ss).toNat), .int .u64 ((Wd.hi si).toNat), .int .u64 ((Wd.lo si).toNat)]), (22, .bool false)]) ⟨rfl, rfl, trivial⟩
      refine Sx.step_ong rfl (Sx.guard_known (d := 22) (b := false) F rfl rfl) rfl (Sx.d_call (vs := [.agg #[.int .u64 ((Wd.hi ss).toNat), .int .u64 ((Wd.lo ss).toNat), .int .u64 ((Wd.hi si).toNat), .int .u64 ((Wd.lo si).toNat)]]) (v := .agg #[.int .u64 ((Wd.hi ((Pc.step ⟨ss, si⟩).s)).toNat), .int .u64 ((Wd.lo ((Pc.step ⟨ss, si⟩).s)).toNat), .int .u64 ((Wd.hi si).toNat), .int .u64 ((Wd.lo si).toNat)]) if_36 F H rfl rfl (pstep_c ss si _)) ?_
      rintro xv w' ⟨hx, H⟩
      exact ⟨(fun cv hc => hx.trans (Option.some.inj (Option.some.inj hc))), H⟩
    · show Sx.StepAt _ _ _ _ _ _ _ 9
      intro L A w up hun hd F H
      have F := Sx.Fr.to F (kv' := [(24, .agg #[.int .u64 ((Wd.hi ((Pc.step ⟨ss, si⟩).s)).toNat), .int .u64 ((Wd.lo ((Pc.step ⟨ss, si⟩).s)).toNat), .int .u64 ((Wd.hi si).toNat), .int .u64 ((Wd.lo si).toNat)]), (22, .bool false)]) ⟨rfl, rfl, trivial⟩
      refine Sx.step_ong rfl (Sx.guard_known (d := 22) (b := false) F rfl rfl) rfl (Sx.d_call (vs := [.agg #[.int .u64 ((Wd.hi ((Pc.step ⟨ss, si⟩).s)).toNat), .int .u64 ((Wd.lo ((Pc.step ⟨ss, si⟩).s)).toNat), .int .u64 ((Wd.hi si).toNat), .int .u64 ((Wd.lo si).toNat)]]) (v := .agg #[.int .u64 ((Wd.hi ((Pc.step ⟨ss, si⟩).s)).toNat), .int .u64 ((Wd.lo ((Pc.step ⟨ss, si⟩).s)).toNat), .int .u64 ((Wd.hi si).toNat), .int .u64 ((Wd.lo si).toNat)]) if_35 F H rfl rfl (own10_c ((Pc.step ⟨ss, si⟩).s) si _)) ?_
      rintro xv w' ⟨hx, H⟩
      exact ⟨(fun cv hc => hx.trans (Option.some.inj (Option.some.inj hc))), H⟩
    · show Sx.StepAt _ _ _ _ _ _ _ 10
      intro L A w up hun hd F H
      have F := Sx.Fr.to F (kv' := [(3, .pointer (some ⟨g1, 0, none⟩)), (22, .bool false)]) ⟨rfl, rfl, trivial⟩
      refine Sx.step_ong rfl (Sx.guard_known (d := 22) (b := false) F rfl rfl) rfl (Sx.d_load (i := 0) (xs := [.int .u64 ((Wd.hi ss).toNat), .int .u64 ((Wd.lo ss).toNat), .int .u64 ((Wd.hi si).toNat), .int .u64 ((Wd.lo si).toNat)]) rw_57 F H rfl rfl rfl rfl rfl) ?_
      rintro xv w' ⟨hx, rfl⟩
      exact ⟨(fun cv hc => hx.trans (Option.some.inj (Option.some.inj hc))), H⟩
    · show Sx.StepAt _ _ _ _ _ _ _ 11
      intro L A w up hun hd F H
      have F := Sx.Fr.to F (kv' := [(26, .agg #[.int .u64 ((Wd.hi ss).toNat), .int .u64 ((Wd.lo ss).toNat), .int .u64 ((Wd.hi si).toNat), .int .u64 ((Wd.lo si).toNat)]), (22, .bool false)]) ⟨rfl, rfl, trivial⟩
      refine Sx.step_ong rfl (Sx.guard_known (d := 22) (b := false) F rfl rfl) rfl (Sx.d_call (vs := [.agg #[.int .u64 ((Wd.hi ss).toNat), .int .u64 ((Wd.lo ss).toNat), .int .u64 ((Wd.hi si).toNat), .int .u64 ((Wd.lo si).toNat)]]) (v := .agg #[.int .u64 ((Wd.hi ss).toNat), .int .u64 ((Wd.lo ss).toNat), .int .u64 ((Wd.hi si).toNat), .int .u64 ((Wd.lo si).toNat)]) if_35 F H rfl rfl (own10_c ss si _)) ?_
      rintro xv w' ⟨hx, H⟩
      exact ⟨(fun cv hc => hx.trans (Option.some.inj (Option.some.inj hc))), H⟩
    · show Sx.StepAt _ _ _ _ _ _ _ 12
      intro L A w up hun hd F H
      have F := Sx.Fr.to F (kv' := [(27, .agg #[.int .u64 ((Wd.hi ss).toNat), .int .u64 ((Wd.lo ss).toNat), .int .u64 ((Wd.hi si).toNat), .int .u64 ((Wd.lo si).toNat)]), (22, .bool false)]) ⟨rfl, rfl, trivial⟩
      refine Sx.step_ong rfl (Sx.guard_known (d := 22) (b := false) F rfl rfl) rfl (Sx.d_call (vs := [.agg #[.int .u64 ((Wd.hi ss).toNat), .int .u64 ((Wd.lo ss).toNat), .int .u64 ((Wd.hi si).toNat), .int .u64 ((Wd.lo si).toNat)]]) (v := .agg #[.int .u64 ((Wd.hi ((Pc.step ⟨ss, si⟩).s)).toNat), .int .u64 ((Wd.lo ((Pc.step ⟨ss, si⟩).s)).toNat), .int .u64 ((Wd.hi si).toNat), .int .u64 ((Wd.lo si).toNat)]) if_37 F H rfl rfl (rstep10_c ss si _)) ?_
      rintro xv w' ⟨hx, H⟩
      exact ⟨(fun cv hc => hx.trans (Option.some.inj (Option.some.inj hc))), H⟩
    · show Sx.StepAt _ _ _ _ _ _ _ 13
      intro L A w up hun hd F H
      have F := Sx.Fr.to F (kv' := [(25, .agg #[.int .u64 ((Wd.hi ((Pc.step ⟨ss, si⟩).s)).toNat), .int .u64 ((Wd.lo ((Pc.step ⟨ss, si⟩).s)).toNat), .int .u64 ((Wd.hi si).toNat), .int .u64 ((Wd.lo si).toNat)]), (28, .agg #[.int .u64 ((Wd.hi ((Pc.step ⟨ss, si⟩).s)).toNat), .int .u64 ((Wd.lo ((Pc.step ⟨ss, si⟩).s)).toNat), .int .u64 ((Wd.hi si).toNat), .int .u64 ((Wd.lo si).toNat)]), (22, .bool false)]) ⟨rfl, rfl, rfl, trivial⟩
      refine Sx.step_ong rfl (Sx.guard_known (d := 22) (b := false) F rfl rfl) rfl (Sx.d_bin (v := .bool false) F rfl rfl rfl (Sx.i_neQ (by rw [show Sx.eqbM ((Pc.step ⟨ss, si⟩).s) si ((Pc.step ⟨ss, si⟩).s) si = true from Sx.eqbM_true rfl rfl]; rfl))) ?_
      rintro xv w' ⟨hx, rfl⟩
      exact ⟨(fun cv hc => hx.trans (Option.some.inj (Option.some.inj hc))), H⟩
    · show Sx.StepAt _ _ _ _ _ _ _ 14
      intro L A w up hun hd F H
      have F := Sx.Fr.to F (kv' := [(22, .bool false), (29, .bool false)]) ⟨rfl, rfl, trivial⟩
      refine Sx.step_on rfl (Sx.d_pickF (v := .bool false) F rfl rfl rfl) ?_
      rintro xv w' ⟨hx, rfl⟩
      exact ⟨(fun cv hc => hx.trans (Option.some.inj (Option.some.inj hc))), H⟩
    · show Sx.StepAt _ _ _ _ _ _ _ 15
      intro L A w up hun hd F H
      have F := Sx.Fr.to F (kv' := [(30, .bool false)]) ⟨rfl, trivial⟩
      refine Sx.step_on rfl (Sx.d_move F (Or.inl rfl) rfl) ?_
      rintro xv w' ⟨hx, rfl⟩
      exact ⟨(fun cv hc => hx.trans (Option.some.inj (Option.some.inj hc))), H⟩
    · show Sx.StepAt _ _ _ _ _ _ _ 16
      intro L A w up hun hd F H
      have F := Sx.Fr.to F (kv' := [(3, .pointer (some ⟨g1, 0, none⟩)), (31, .bool false)]) ⟨rfl, rfl, trivial⟩
      refine Sx.step_ong rfl (Sx.guard_known (d := 31) (b := false) F rfl rfl) rfl (Sx.d_load (i := 0) (xs := [.int .u64 ((Wd.hi ss).toNat), .int .u64 ((Wd.lo ss).toNat), .int .u64 ((Wd.hi si).toNat), .int .u64 ((Wd.lo si).toNat)]) rw_57 F H rfl rfl rfl rfl rfl) ?_
      rintro xv w' ⟨hx, rfl⟩
      exact ⟨(fun cv hc => hx.trans (Option.some.inj (Option.some.inj hc))), H⟩
    · show Sx.StepAt _ _ _ _ _ _ _ 17
      intro L A w up hun hd F H
      have F := Sx.Fr.to F (kv' := [(32, .agg #[.int .u64 ((Wd.hi ss).toNat), .int .u64 ((Wd.lo ss).toNat), .int .u64 ((Wd.hi si).toNat), .int .u64 ((Wd.lo si).toNat)]), (31, .bool false)]) ⟨rfl, rfl, trivial⟩
      refine Sx.step_ong rfl (Sx.guard_known (d := 31) (b := false) F rfl rfl) rfl (Sx.d_call (vs := [.agg #[.int .u64 ((Wd.hi ss).toNat), .int .u64 ((Wd.lo ss).toNat), .int .u64 ((Wd.hi si).toNat), .int .u64 ((Wd.lo si).toNat)]]) (v := .bool true) if_38 F H rfl rfl (Calls.val (pright_c ss si _) rfl (congrArg Value.bool (ho)))) ?_
      rintro xv w' ⟨hx, H⟩
      exact ⟨(fun cv hc => hx.trans (Option.some.inj (Option.some.inj hc))), H⟩
    · show Sx.StepAt _ _ _ _ _ _ _ 18
      intro L A w up hun hd F H
      have F := Sx.Fr.to F (kv' := [(3, .pointer (some ⟨g1, 0, none⟩)), (31, .bool false)]) ⟨rfl, rfl, trivial⟩
      refine Sx.step_ong rfl (Sx.guard_known (d := 31) (b := false) F rfl rfl) rfl (Sx.d_faddr (v := .pointer (some ⟨g1, 2, none⟩)) F rfl rfl (fa_57_1 _ 0 _)) ?_
      rintro xv w' ⟨hx, rfl⟩
      exact ⟨(fun cv hc => hx.trans (Option.some.inj (Option.some.inj hc))), H⟩
    · show Sx.StepAt _ _ _ _ _ _ _ 19
      intro L A w up hun hd F H
      have F := Sx.Fr.to F (kv' := [(34, .pointer (some ⟨g1, 2, none⟩)), (31, .bool false)]) ⟨rfl, rfl, trivial⟩
      refine Sx.step_ong rfl (Sx.guard_known (d := 31) (b := false) F rfl rfl) rfl (Sx.d_faddr (v := .pointer (some ⟨g1, 3, none⟩)) F rfl rfl (fa_24_1 _ 2 _)) ?_
      rintro xv w' ⟨hx, rfl⟩
      exact ⟨(fun cv hc => hx.trans (Option.some.inj (Option.some.inj hc))), H⟩
    · show Sx.StepAt _ _ _ _ _ _ _ 20
      intro L A w up hun hd F H
      have F := Sx.Fr.to F (kv' := [(35, .pointer (some ⟨g1, 3, none⟩)), (31, .bool false)]) ⟨rfl, rfl, trivial⟩
      refine Sx.step_ong rfl (Sx.guard_known (d := 31) (b := false) F rfl rfl) rfl (Sx.d_load1 (i := 0) (v := .int .u64 ((Wd.lo si).toNat)) one_22 F H rfl rfl rfl rfl) ?_
      rintro xv w' ⟨hx, rfl⟩
      exact ⟨(fun cv hc => hx.trans (Option.some.inj (Option.some.inj hc))), H⟩
    · show Sx.StepAt _ _ _ _ _ _ _ 21
      intro L A w up hun hd F H
      have F := Sx.Fr.to F (kv' := [(36, .int .u64 ((Wd.lo si).toNat)), (31, .bool false)]) ⟨rfl, rfl, trivial⟩
      refine Sx.step_ong rfl (Sx.guard_known (d := 31) (b := false) F rfl rfl) rfl (Sx.d_bin (v := .int .u64 (((Wd.lo si) % 2#64).toNat)) F rfl rfl rfl (Sx.i_rem64 (Wd.lo si) 2#64 (by decide))) ?_
      rintro xv w' ⟨hx, rfl⟩
      exact ⟨(fun cv hc => hx.trans (Option.some.inj (Option.some.inj hc))), H⟩
    · show Sx.StepAt _ _ _ _ _ _ _ 22
      intro L A w up hun hd F H
      have F := Sx.Fr.to F (kv' := [(37, .int .u64 (((Wd.lo si) % 2#64).toNat)), (31, .bool false)]) ⟨rfl, rfl, trivial⟩
      refine Sx.step_ong rfl (Sx.guard_known (d := 31) (b := false) F rfl rfl) rfl (Sx.d_bin (v := .bool true) F rfl rfl rfl (Sx.i_eq ((Pc.lo_bit si).trans ho))) ?_
      rintro xv w' ⟨hx, rfl⟩
      exact ⟨(fun cv hc => hx.trans (Option.some.inj (Option.some.inj hc))), H⟩
    · show Sx.StepAt _ _ _ _ _ _ _ 23
      intro L A w up hun hd F H
      have F := Sx.Fr.to F (kv' := [(33, .bool true), (38, .bool true), (31, .bool false)]) ⟨rfl, rfl, rfl, trivial⟩
      refine Sx.step_ong rfl (Sx.guard_known (d := 31) (b := false) F rfl rfl) rfl (Sx.d_bin (v := .bool false) F rfl rfl rfl (Sx.b_ne (by simp))) ?_
      rintro xv w' ⟨hx, rfl⟩
      exact ⟨(fun cv hc => hx.trans (Option.some.inj (Option.some.inj hc))), H⟩
    · show Sx.StepAt _ _ _ _ _ _ _ 24
      intro L A w up hun hd F H
      have F := Sx.Fr.to F (kv' := [(31, .bool false), (39, .bool false)]) ⟨rfl, rfl, trivial⟩
      refine Sx.step_on rfl (Sx.d_pickF (v := .bool false) F rfl rfl rfl) ?_
      rintro xv w' ⟨hx, rfl⟩
      exact ⟨(fun cv hc => hx.trans (Option.some.inj (Option.some.inj hc))), H⟩
  · intro L A w hL F H
    have F := Sx.Fr.to F (kv' := [(0, .agg #[.int .u64 ((Wd.hi ss).toNat), .int .u64 ((Wd.lo ss).toNat), .int .u64 ((Wd.hi si).toNat), .int .u64 ((Wd.lo si).toNat)]), (1, .int .i64 many), (2, .int .u16 nn), (3, .pointer (some ⟨g1, 0, none⟩)), (6, .bool false), (14, .bool true), (15, .bool false), (40, .bool false)]) ⟨rfl, rfl, rfl, rfl, rfl, rfl, rfl, rfl, trivial⟩
    refine hK5 _ _ ?_
    refine Sx.condF F rfl ?_
    refine wp_skip ?_
    refine hK4 _ _ ?_
    refine Sx.seq (fun K6 hK6 => ?_)
    refine Sx.plain ?_
    refine Sx.sv F (Sx.d_load (i := 0) (xs := [.int .u64 ((Wd.hi ss).toNat), .int .u64 ((Wd.lo ss).toNat), .int .u64 ((Wd.hi si).toNat), .int .u64 ((Wd.lo si).toNat)]) rw_57 F H rfl rfl rfl rfl rfl) (Sx.wanted_none rfl _) rfl (by decide) (fun A F => ?_)
    refine Sx.sv F (Sx.d_move F (Or.inl rfl) rfl) (Sx.wanted_none rfl _) rfl (by decide) (fun A F => ?_)
    refine Sx.sw F (Sx.d_call (vs := [.agg #[.int .u64 ((Wd.hi ss).toNat), .int .u64 ((Wd.lo ss).toNat), .int .u64 ((Wd.hi si).toNat), .int .u64 ((Wd.lo si).toNat)], .int .i64 many]) (v := .tuple #[.slice none 0 0, .agg #[.int .u64 ((Wd.hi 0#128).toNat), .int .u64 ((Wd.lo 0#128).toNat), .int .u64 ((Wd.hi 0#128).toNat), .int .u64 ((Wd.lo 0#128).toNat)], .int .i64 1]) if_39 F H rfl rfl (pwords_hi ss si many (ho) (by omega) _)) (Sx.wanted_none rfl _) rfl (by decide) (fun A w F H => ?_)
    refine Sx.sv F (Sx.d_move F (Or.inl rfl) rfl) (Sx.wanted_none rfl _) rfl (by decide) (fun A F => ?_)
    refine Sx.sv F (Sx.d_extract (v := .slice none 0 0) F rfl rfl rfl) (Sx.wanted_none rfl _) rfl (by decide) (fun A F => ?_)
    refine Sx.sv F (Sx.d_extract (v := .agg #[.int .u64 ((Wd.hi 0#128).toNat), .int .u64 ((Wd.lo 0#128).toNat), .int .u64 ((Wd.hi 0#128).toNat), .int .u64 ((Wd.lo 0#128).toNat)]) F rfl rfl rfl) (Sx.wanted_none rfl _) rfl (by decide) (fun A F => ?_)
    refine Sx.sv F (Sx.d_extract (v := .int .i64 1) F rfl rfl rfl) (Sx.wanted_none rfl _) rfl (by decide) (fun A F => ?_)
    refine Sx.sb F (Sx.d_alloc H rfl [.int .u64 ((Wd.hi 0#128).toNat), .int .u64 ((Wd.lo 0#128).toNat), .int .u64 ((Wd.hi 0#128).toNat), .int .u64 ((Wd.lo 0#128).toNat)] zero_57) (Sx.wanted_none rfl _) rfl (by decide) (fun g2 A w F H => ?_)
    refine Sx.sv F (Sx.d_move F (Or.inr rfl) rfl) (Sx.wanted_none rfl _) rfl (by decide) (fun A F => ?_)
    refine Sx.ss F (Sx.d_store (i := 0) (xs := [.int .u64 ((Wd.hi 0#128).toNat), .int .u64 ((Wd.lo 0#128).toNat), .int .u64 ((Wd.hi 0#128).toNat), .int .u64 ((Wd.lo 0#128).toNat)]) (us := [.int .u64 ((Wd.hi 0#128).toNat), .int .u64 ((Wd.lo 0#128).toNat), .int .u64 ((Wd.hi 0#128).toNat), .int .u64 ((Wd.lo 0#128).toNat)]) sz_57 F H rfl rfl rfl rfl rfl rfl rfl (Nat.le_of_ble_eq_true rfl) rfl) (Sx.wanted_none rfl _) rfl (fun A w F (H : Sx.Own w0 _ [(true, g2, [.int .u64 ((Wd.hi 0#128).toNat), .int .u64 ((Wd.lo 0#128).toNat), .int .u64 ((Wd.hi 0#128).toNat), .int .u64 ((Wd.lo 0#128).toNat)]), (true, g1, [.int .u64 ((Wd.hi ss).toNat), .int .u64 ((Wd.lo ss).toNat), .int .u64 ((Wd.hi si).toNat), .int .u64 ((Wd.lo si).toNat)])] []) => ?_)
    refine Sx.sv F (Sx.d_move F (Or.inr rfl) rfl) (Sx.wanted_none rfl _) rfl (by decide) (fun A F => ?_)
    refine Sx.nil ?_
    refine hK6 _ _ ?_
    refine Sx.seq (fun K7 hK7 => ?_)
    have F := Sx.Fr.to F (kv' := [(0, .agg #[.int .u64 ((Wd.hi ss).toNat), .int .u64 ((Wd.lo ss).toNat), .int .u64 ((Wd.hi si).toNat), .int .u64 ((Wd.lo si).toNat)]), (1, .int .i64 many), (2, .int .u16 nn), (3, .pointer (some ⟨g1, 0, none⟩)), (6, .bool false), (14, .bool true), (15, .bool false), (40, .bool false), (42, .agg #[.int .u64 ((Wd.hi ss).toNat), .int .u64 ((Wd.lo ss).toNat), .int .u64 ((Wd.hi si).toNat), .int .u64 ((Wd.lo si).toNat)]), (43, .int .i64 many), (44, .tuple #[.slice none 0 0, .agg #[.int .u64 ((Wd.hi 0#128).toNat), .int .u64 ((Wd.lo 0#128).toNat), .int .u64 ((Wd.hi 0#128).toNat), .int .u64 ((Wd.lo 0#128).toNat)], .int .i64 1]), (41, .tuple #[.slice none 0 0, .agg #[.int .u64 ((Wd.hi 0#128).toNat), .int .u64 ((Wd.lo 0#128).toNat), .int .u64 ((Wd.hi 0#128).toNat), .int .u64 ((Wd.lo 0#128).toNat)], .int .i64 1]), (45, .slice none 0 0), (46, .agg #[.int .u64 ((Wd.hi 0#128).toNat), .int .u64 ((Wd.lo 0#128).toNat), .int .u64 ((Wd.hi 0#128).toNat), .int .u64 ((Wd.lo 0#128).toNat)]), (47, .int .i64 1), (8, .pointer (some ⟨g2, 0, none⟩)), (7, .slice none 0 0), (9, .int .i64 1)]) ⟨rfl, rfl, rfl, rfl, rfl, rfl, rfl, rfl, rfl, rfl, rfl, rfl, rfl, rfl, rfl, rfl, rfl, rfl, trivial⟩
    refine Sx.drawn F (by kernel_rfl) (by kernel_rfl) (by kernel_rfl) [some (.agg #[.int .u64 ((Wd.hi ss).toNat), .int .u64 ((Wd.lo ss).toNat), .int .u64 ((Wd.hi si).toNat), .int .u64 ((Wd.lo si).toNat)]), some (.int .u16 nn), some (.int .u16 m), some (.int .u64 ((BitVec.ofNat 64 m).toNat)), some (.agg #[.int .u64 ((Wd.hi (Wd.of (BitVec.ofNat 64 m))).toNat), .int .u64 ((Wd.lo (Wd.of (BitVec.ofNat 64 m))).toNat)]), some (.tuple #[.agg #[.int .u64 ((Wd.hi ((Pc.jump ⟨ss, si⟩ (Wd.of (BitVec.ofNat 64 m))).s)).toNat), .int .u64 ((Wd.lo ((Pc.jump ⟨ss, si⟩ (Wd.of (BitVec.ofNat 64 m))).s)).toNat), .int .u64 ((Wd.hi si).toNat), .int .u64 ((Wd.lo si).toNat)], .int .i64 0]), some (.tuple #[.agg #[.int .u64 ((Wd.hi ((Pc.jump ⟨ss, si⟩ (Wd.of (BitVec.ofNat 64 m))).s)).toNat), .int .u64 ((Wd.lo ((Pc.jump ⟨ss, si⟩ (Wd.of (BitVec.ofNat 64 m))).s)).toNat), .int .u64 ((Wd.hi si).toNat), .int .u64 ((Wd.lo si).toNat)], .int .i64 0]), some (.agg #[.int .u64 ((Wd.hi ((Pc.jump ⟨ss, si⟩ (Wd.of (BitVec.ofNat 64 m))).s)).toNat), .int .u64 ((Wd.lo ((Pc.jump ⟨ss, si⟩ (Wd.of (BitVec.ofNat 64 m))).s)).toNat), .int .u64 ((Wd.hi si).toNat), .int .u64 ((Wd.lo si).toNat)]), some (.int .i64 0), none, none, some (.int .i64 0)] (fun L A w => ∃ g3 : Nat, (L 9 = true → A.eval (.tmp 10) = .pointer (some ⟨g3, 0, none⟩)) ∧ Sx.Own w0 w [(true, g2, [.int .u64 ((Wd.hi 0#128).toNat), .int .u64 ((Wd.lo 0#128).toNat), .int .u64 ((Wd.hi 0#128).toNat), .int .u64 ((Wd.lo 0#128).toNat)]), (true, g1, [.int .u64 ((Wd.hi ss).toNat), .int .u64 ((Wd.lo ss).toNat), .int .u64 ((Wd.hi si).toNat), .int .u64 ((Wd.lo si).toNat)]), (L 9, g3, (cond (L 10) [.int .u64 ((Wd.hi ((Pc.jump ⟨ss, si⟩ (Wd.of (BitVec.ofNat 64 m))).s)).toNat), .int .u64 ((Wd.lo ((Pc.jump ⟨ss, si⟩ (Wd.of (BitVec.ofNat 64 m))).s)).toNat), .int .u64 ((Wd.hi si).toNat), .int .u64 ((Wd.lo si).toNat)] [.int .u64 ((Wd.hi 0#128).toNat), .int .u64 ((Wd.lo 0#128).toNat), .int .u64 ((Wd.hi 0#128).toNat), .int .u64 ((Wd.lo 0#128).toNat)]))] []) ⟨0, (fun h => by cases h), H.drew.pad [(false, 0, [.int .u64 ((Wd.hi 0#128).toNat), .int .u64 ((Wd.lo 0#128).toNat), .int .u64 ((Wd.hi 0#128).toNat), .int .u64 ((Wd.lo 0#128).toNat)])] rfl [] rfl⟩ ?_ ?_
    · refine ⟨?_, ?_, ?_, ?_, ?_, ?_, ?_, ?_, ?_, ?_, ?_, ?_, trivial⟩
      · show Sx.StepAt _ _ _ _ _ _ _ 0
        intro L A w up hun hd F ⟨g3, p9, H⟩
        have f10 : L 10 = false := up 10 0 rfl hun
        rw [f10] at H
        have F := Sx.Fr.to F (kv' := [(3, .pointer (some ⟨g1, 0, none⟩))]) ⟨rfl, trivial⟩
        refine Sx.step_on rfl (Sx.d_load (i := 1) (xs := [.int .u64 ((Wd.hi ss).toNat), .int .u64 ((Wd.lo ss).toNat), .int .u64 ((Wd.hi si).toNat), .int .u64 ((Wd.lo si).toNat)]) rw_57 F H rfl rfl rfl rfl rfl) ?_
        rintro xv w' ⟨hx, rfl⟩
        exact ⟨(fun cv hc => hx.trans (Option.some.inj (Option.some.inj hc))), ⟨g3, (fun h => (Sx.put_ne rfl _).trans (p9 h)), (by show Sx.Own _ _ _ _; rw [show Inv.add L 0 10 = false from f10]; exact H)⟩⟩
      · show Sx.StepAt _ _ _ _ _ _ _ 1
        intro L A w up hun hd F ⟨g3, p9, H⟩
        have f10 : L 10 = false := up 10 1 rfl hun
        rw [f10] at H
        have F := Sx.Fr.to F (kv' := [(2, .int .u16 nn)]) ⟨rfl, trivial⟩
        refine Sx.step_on rfl (Sx.d_move F (Or.inl rfl) rfl) ?_
        rintro xv w' ⟨hx, rfl⟩
        exact ⟨(fun cv hc => hx.trans (Option.some.inj (Option.some.inj hc))), ⟨g3, (fun h => (Sx.put_ne rfl _).trans (p9 h)), (by show Sx.Own _ _ _ _; rw [show Inv.add L 1 10 = false from f10]; exact H)⟩⟩
      · show Sx.StepAt _ _ _ _ _ _ _ 2
        intro L A w up hun hd F ⟨g3, p9, H⟩
        have f10 : L 10 = false := up 10 2 rfl hun
        rw [f10] at H
        have F := Sx.Fr.to F (kv' := [(50, .int .u16 nn)]) ⟨rfl, trivial⟩
        refine Sx.step_on rfl (Sx.d_bin (v := .int .u16 m) F rfl rfl rfl (Sx.i_rem hm (by decide))) ?_
        rintro xv w' ⟨hx, rfl⟩
        exact ⟨(fun cv hc => hx.trans (Option.some.inj (Option.some.inj hc))), ⟨g3, (fun h => (Sx.put_ne rfl _).trans (p9 h)), (by show Sx.Own _ _ _ _; rw [show Inv.add L 2 10 = false from f10]; exact H)⟩⟩
      · show Sx.StepAt _ _ _ _ _ _ _ 3
        intro L A w up hun hd F ⟨g3, p9, H⟩
        have f10 : L 10 = false := up 10 3 rfl hun
        rw [f10] at H
        have F := Sx.Fr.to F (kv' := [(51, .int .u16 m)]) ⟨rfl, trivial⟩
        refine Sx.step_on rfl (Sx.d_conv (v := .int .u64 ((BitVec.ofNat 64 m).toNat)) F rfl rfl (Sx.c_u16_u64 m (by omega))) ?_
        rintro xv w' ⟨hx, rfl⟩
        exact ⟨(fun cv hc => hx.trans (Option.some.inj (Option.some.inj hc))), ⟨g3, (fun h => (Sx.put_ne rfl _).trans (p9 h)), (by show Sx.Own _ _ _ _; rw [show Inv.add L 3 10 = false from f10]; exact H)⟩⟩
      · show Sx.StepAt _ _ _ _ _ _ _ 4
        intro L A w up hun hd F ⟨g3, p9, H⟩
        have f10 : L 10 = false := up 10 4 rfl hun
        rw [f10] at H
        have F := Sx.Fr.to F (kv' := [(52, .int .u64 ((BitVec.ofNat 64 m).toNat))]) ⟨rfl, trivial⟩
        refine Sx.step_on rfl (Sx.d_call (vs := [.int .u64 ((BitVec.ofNat 64 m).toNat)]) (v := .agg #[.int .u64 ((Wd.hi (Wd.of (BitVec.ofNat 64 m))).toNat), .int .u64 ((Wd.lo (Wd.of (BitVec.ofNat 64 m))).toNat)]) if_29 F H rfl rfl (wofV_c (BitVec.ofNat 64 m) _)) ?_
        rintro xv w' ⟨hx, H⟩
        exact ⟨(fun cv hc => hx.trans (Option.some.inj (Option.some.inj hc))), ⟨g3, (fun h => (Sx.put_ne rfl _).trans (p9 h)), (by show Sx.Own _ _ _ _; rw [show Inv.add L 4 10 = false from f10]; exact H)⟩⟩
      · show Sx.StepAt _ _ _ _ _ _ _ 5
        intro L A w up hun hd F ⟨g3, p9, H⟩
        have f10 : L 10 = false := up 10 5 rfl hun
        rw [f10] at H
        have F := Sx.Fr.to F (kv' := [(49, .agg #[.int .u64 ((Wd.hi ss).toNat), .int .u64 ((Wd.lo ss).toNat), .int .u64 ((Wd.hi si).toNat), .int .u64 ((Wd.lo si).toNat)]), (53, .agg #[.int .u64 ((Wd.hi (Wd.of (BitVec.ofNat 64 m))).toNat), .int .u64 ((Wd.lo (Wd.of (BitVec.ofNat 64 m))).toNat)])]) ⟨rfl, rfl, trivial⟩
        refine Sx.step_on rfl (Sx.d_call (vs := [.agg #[.int .u64 ((Wd.hi ss).toNat), .int .u64 ((Wd.lo ss).toNat), .int .u64 ((Wd.hi si).toNat), .int .u64 ((Wd.lo si).toNat)], .agg #[.int .u64 ((Wd.hi (Wd.of (BitVec.ofNat 64 m))).toNat), .int .u64 ((Wd.lo (Wd.of (BitVec.ofNat 64 m))).toNat)]]) (v := .tuple #[.agg #[.int .u64 ((Wd.hi ((Pc.jump ⟨ss, si⟩ (Wd.of (BitVec.ofNat 64 m))).s)).toNat), .int .u64 ((Wd.lo ((Pc.jump ⟨ss, si⟩ (Wd.of (BitVec.ofNat 64 m))).s)).toNat), .int .u64 ((Wd.hi si).toNat), .int .u64 ((Wd.lo si).toNat)], .int .i64 0]) if_40 F H rfl rfl (pjump_ok ss si (Wd.of (BitVec.ofNat 64 m)) (ho) _)) ?_
        rintro xv w' ⟨hx, H⟩
        exact ⟨(fun cv hc => hx.trans (Option.some.inj (Option.some.inj hc))), ⟨g3, (fun h => (Sx.put_ne rfl _).trans (p9 h)), (by show Sx.Own _ _ _ _; rw [show Inv.add L 5 10 = false from f10]; exact H)⟩⟩
      · show Sx.StepAt _ _ _ _ _ _ _ 6
        intro L A w up hun hd F ⟨g3, p9, H⟩
        have f10 : L 10 = false := up 10 6 rfl hun
        rw [f10] at H
        have F := Sx.Fr.to F (kv' := [(54, .tuple #[.agg #[.int .u64 ((Wd.hi ((Pc.jump ⟨ss, si⟩ (Wd.of (BitVec.ofNat 64 m))).s)).toNat), .int .u64 ((Wd.lo ((Pc.jump ⟨ss, si⟩ (Wd.of (BitVec.ofNat 64 m))).s)).toNat), .int .u64 ((Wd.hi si).toNat), .int .u64 ((Wd.lo si).toNat)], .int .i64 0])]) ⟨rfl, trivial⟩
        refine Sx.step_on rfl (Sx.d_move F (Or.inl rfl) rfl) ?_
        rintro xv w' ⟨hx, rfl⟩
        exact ⟨(fun cv hc => hx.trans (Option.some.inj (Option.some.inj hc))), ⟨g3, (fun h => (Sx.put_ne rfl _).trans (p9 h)), (by show Sx.Own _ _ _ _; rw [show Inv.add L 6 10 = false from f10]; exact H)⟩⟩
      · show Sx.StepAt _ _ _ _ _ _ _ 7
        intro L A w up hun hd F ⟨g3, p9, H⟩
        have f10 : L 10 = false := up 10 7 rfl hun
        rw [f10] at H
        have F := Sx.Fr.to F (kv' := [(48, .tuple #[.agg #[.int .u64 ((Wd.hi ((Pc.jump ⟨ss, si⟩ (Wd.of (BitVec.ofNat 64 m))).s)).toNat), .int .u64 ((Wd.lo ((Pc.jump ⟨ss, si⟩ (Wd.of (BitVec.ofNat 64 m))).s)).toNat), .int .u64 ((Wd.hi si).toNat), .int .u64 ((Wd.lo si).toNat)], .int .i64 0])]) ⟨rfl, trivial⟩
        refine Sx.step_on rfl (Sx.d_extract (v := .agg #[.int .u64 ((Wd.hi ((Pc.jump ⟨ss, si⟩ (Wd.of (BitVec.ofNat 64 m))).s)).toNat), .int .u64 ((Wd.lo ((Pc.jump ⟨ss, si⟩ (Wd.of (BitVec.ofNat 64 m))).s)).toNat), .int .u64 ((Wd.hi si).toNat), .int .u64 ((Wd.lo si).toNat)]) F rfl rfl rfl) ?_
        rintro xv w' ⟨hx, rfl⟩
        exact ⟨(fun cv hc => hx.trans (Option.some.inj (Option.some.inj hc))), ⟨g3, (fun h => (Sx.put_ne rfl _).trans (p9 h)), (by show Sx.Own _ _ _ _; rw [show Inv.add L 7 10 = false from f10]; exact H)⟩⟩
      · show Sx.StepAt _ _ _ _ _ _ _ 8
        intro L A w up hun hd F ⟨g3, p9, H⟩
        have F := Sx.Fr.to F (kv' := [(48, .tuple #[.agg #[.int .u64 ((Wd.hi ((Pc.jump ⟨ss, si⟩ (Wd.of (BitVec.ofNat 64 m))).s)).toNat), .int .u64 ((Wd.lo ((Pc.jump ⟨ss, si⟩ (Wd.of (BitVec.ofNat 64 m))).s)).toNat), .int .u64 ((Wd.hi si).toNat), .int .u64 ((Wd.lo si).toNat)], .int .i64 0])]) ⟨rfl, trivial⟩
        refine Sx.step_on rfl (Sx.d_extract (v := .int .i64 0) F rfl rfl rfl) ?_
        rintro xv w' ⟨hx, rfl⟩
        exact ⟨(fun cv hc => hx.trans (Option.some.inj (Option.some.inj hc))), ⟨g3, (fun h => (Sx.put_ne rfl _).trans (p9 h)), H⟩⟩
      · show Sx.StepAt _ _ _ _ _ _ _ 9
        intro L A w up hun hd F ⟨g3, p9, H⟩
        have f9 : L 9 = false := hun
        have f10 : L 10 = false := up 10 9 rfl hun
        rw [f9, f10] at H
        have F := Sx.Fr.to F (kv' := []) trivial
        refine Sx.step_on rfl (Sx.d_alloc_at H rfl 2 [.int .u64 ((Wd.hi 0#128).toNat), .int .u64 ((Wd.lo 0#128).toNat), .int .u64 ((Wd.hi 0#128).toNat), .int .u64 ((Wd.lo 0#128).toNat)] zero_57) ?_
        rintro xv w' ⟨g', hx, H⟩
        exact ⟨(fun cv hc => by have h := Option.some.inj hc; cases h), ⟨g', (fun _ => (Sx.put_same F (by decide) _).trans hx), (by show Sx.Own _ _ _ _; rw [show Inv.add L 9 10 = false from f10]; exact H)⟩⟩
      · show Sx.StepAt _ _ _ _ _ _ _ 10
        intro L A w up hun hd F ⟨g3, p9, H⟩
        have t9 : L 9 = true := hd 9 rfl
        have f10 : L 10 = false := hun
        rw [t9, f10] at H
        have F := Sx.Fr.to F (kv' := [(55, .agg #[.int .u64 ((Wd.hi ((Pc.jump ⟨ss, si⟩ (Wd.of (BitVec.ofNat 64 m))).s)).toNat), .int .u64 ((Wd.lo ((Pc.jump ⟨ss, si⟩ (Wd.of (BitVec.ofNat 64 m))).s)).toNat), .int .u64 ((Wd.hi si).toNat), .int .u64 ((Wd.lo si).toNat)])]) ⟨rfl, trivial⟩
        have F := Sx.Fr.add F (p9 t9)
        refine Sx.step_on rfl (Sx.d_store (i := 2) (xs := [.int .u64 ((Wd.hi ((Pc.jump ⟨ss, si⟩ (Wd.of (BitVec.ofNat 64 m))).s)).toNat), .int .u64 ((Wd.lo ((Pc.jump ⟨ss, si⟩ (Wd.of (BitVec.ofNat 64 m))).s)).toNat), .int .u64 ((Wd.hi si).toNat), .int .u64 ((Wd.lo si).toNat)]) (us := [.int .u64 ((Wd.hi ((Pc.jump ⟨ss, si⟩ (Wd.of (BitVec.ofNat 64 m))).s)).toNat), .int .u64 ((Wd.lo ((Pc.jump ⟨ss, si⟩ (Wd.of (BitVec.ofNat 64 m))).s)).toNat), .int .u64 ((Wd.hi si).toNat), .int .u64 ((Wd.lo si).toNat)]) sz_57 F H rfl rfl rfl rfl rfl rfl rfl (Nat.le_of_ble_eq_true rfl) rfl) ?_
        intro xv w' H
        exact ⟨(fun cv hc => by have h := Option.some.inj hc; cases h), ⟨g3, p9, (by show Sx.Own _ _ _ _; rw [show Inv.add L 10 9 = true from t9]; exact H)⟩⟩
      · show Sx.StepAt _ _ _ _ _ _ _ 11
        intro L A w up hun hd F ⟨g3, p9, H⟩
        have t9 : L 9 = true := hd 9 rfl
        have t10 : L 10 = true := hd 10 rfl
        rw [t9, t10] at H
        have F := Sx.Fr.to F (kv' := [(56, .int .i64 0)]) ⟨rfl, trivial⟩
        have F := Sx.Fr.add F (p9 t9)
        refine Sx.step_on rfl (Sx.d_move F (Or.inr rfl) rfl) ?_
        rintro xv w' ⟨hx, rfl⟩
        exact ⟨(fun cv hc => hx.trans (Option.some.inj (Option.some.inj hc))), ⟨g3, (fun h => (Sx.put_ne rfl _).trans (p9 h)), (by show Sx.Own _ _ _ _; rw [show Inv.add L 11 9 = true from t9, show Inv.add L 11 10 = true from t10]; exact H)⟩⟩
    · intro L A w hL F ⟨g3, p9, H⟩
      have t9 : L 9 = true := hL 9 rfl
      have t10 : L 10 = true := hL 10 rfl
      rw [t9, t10] at H
      have F := Sx.Fr.add F (p9 t9)
      have F := Sx.Fr.to F (kv' := [(0, .agg #[.int .u64 ((Wd.hi ss).toNat), .int .u64 ((Wd.lo ss).toNat), .int .u64 ((Wd.hi si).toNat), .int .u64 ((Wd.lo si).toNat)]), (1, .int .i64 many), (2, .int .u16 nn), (3, .pointer (some ⟨g1, 0, none⟩)), (6, .bool false), (14, .bool true), (15, .bool false), (40, .bool false), (42, .agg #[.int .u64 ((Wd.hi ss).toNat), .int .u64 ((Wd.lo ss).toNat), .int .u64 ((Wd.hi si).toNat), .int .u64 ((Wd.lo si).toNat)]), (43, .int .i64 many), (44, .tuple #[.slice none 0 0, .agg #[.int .u64 ((Wd.hi 0#128).toNat), .int .u64 ((Wd.lo 0#128).toNat), .int .u64 ((Wd.hi 0#128).toNat), .int .u64 ((Wd.lo 0#128).toNat)], .int .i64 1]), (41, .tuple #[.slice none 0 0, .agg #[.int .u64 ((Wd.hi 0#128).toNat), .int .u64 ((Wd.lo 0#128).toNat), .int .u64 ((Wd.hi 0#128).toNat), .int .u64 ((Wd.lo 0#128).toNat)], .int .i64 1]), (45, .slice none 0 0), (46, .agg #[.int .u64 ((Wd.hi 0#128).toNat), .int .u64 ((Wd.lo 0#128).toNat), .int .u64 ((Wd.hi 0#128).toNat), .int .u64 ((Wd.lo 0#128).toNat)]), (47, .int .i64 1), (8, .pointer (some ⟨g2, 0, none⟩)), (7, .slice none 0 0), (9, .int .i64 1), (10, .pointer (some ⟨g3, 0, none⟩)), (11, .int .i64 0)]) ⟨rfl, rfl, rfl, rfl, rfl, rfl, rfl, rfl, rfl, rfl, rfl, rfl, rfl, rfl, rfl, rfl, rfl, rfl, rfl, rfl, trivial⟩
      refine hK7 _ _ ?_
      refine Sx.seq (fun K8 hK8 => ?_)
      refine wp_block ?_
      refine Sx.seq (fun K9 hK9 => ?_)
      refine Sx.plain ?_
      refine Sx.sv F (Sx.d_load (i := 1) (xs := [.int .u64 ((Wd.hi ss).toNat), .int .u64 ((Wd.lo ss).toNat), .int .u64 ((Wd.hi si).toNat), .int .u64 ((Wd.lo si).toNat)]) rw_57 F H rfl rfl rfl rfl rfl) (Sx.wanted_none rfl _) rfl (by decide) (fun A F => ?_)
      refine Sx.sw F (Sx.d_call (vs := [.agg #[.int .u64 ((Wd.hi ss).toNat), .int .u64 ((Wd.lo ss).toNat), .int .u64 ((Wd.hi si).toNat), .int .u64 ((Wd.lo si).toNat)]]) (v := .bool true) if_38 F H rfl rfl (Calls.val (pright_c ss si _) rfl (congrArg Value.bool (ho)))) (Sx.wanted_none rfl _) rfl (by decide) (fun A w F H => ?_)
      refine Sx.sv F (Sx.d_un (v := .bool false) F rfl rfl rfl) (Sx.wanted_none rfl _) rfl (by decide) (fun A F => ?_)
      refine Sx.sv F (Sx.d_move F (Or.inr rfl) rfl) (Sx.wanted_none rfl _) rfl (by decide) (fun A F => ?_)
      refine Sx.nil ?_
      refine hK9 _ _ ?_
      refine Sx.condF F rfl ?_
      refine Sx.seq (fun K10 hK10 => ?_)
      have F := Sx.Fr.to F (kv' := [(0, .agg #[.int .u64 ((Wd.hi ss).toNat), .int .u64 ((Wd.lo ss).toNat), .int .u64 ((Wd.hi si).toNat), .int .u64 ((Wd.lo si).toNat)]), (1, .int .i64 many), (2, .int .u16 nn), (3, .pointer (some ⟨g1, 0, none⟩)), (6, .bool false), (14, .bool true), (15, .bool false), (40, .bool false), (42, .agg #[.int .u64 ((Wd.hi ss).toNat), .int .u64 ((Wd.lo ss).toNat), .int .u64 ((Wd.hi si).toNat), .int .u64 ((Wd.lo si).toNat)]), (43, .int .i64 many), (44, .tuple #[.slice none 0 0, .agg #[.int .u64 ((Wd.hi 0#128).toNat), .int .u64 ((Wd.lo 0#128).toNat), .int .u64 ((Wd.hi 0#128).toNat), .int .u64 ((Wd.lo 0#128).toNat)], .int .i64 1]), (41, .tuple #[.slice none 0 0, .agg #[.int .u64 ((Wd.hi 0#128).toNat), .int .u64 ((Wd.lo 0#128).toNat), .int .u64 ((Wd.hi 0#128).toNat), .int .u64 ((Wd.lo 0#128).toNat)], .int .i64 1]), (45, .slice none 0 0), (46, .agg #[.int .u64 ((Wd.hi 0#128).toNat), .int .u64 ((Wd.lo 0#128).toNat), .int .u64 ((Wd.hi 0#128).toNat), .int .u64 ((Wd.lo 0#128).toNat)]), (47, .int .i64 1), (8, .pointer (some ⟨g2, 0, none⟩)), (7, .slice none 0 0), (9, .int .i64 1), (10, .pointer (some ⟨g3, 0, none⟩)), (11, .int .i64 0), (58, .agg #[.int .u64 ((Wd.hi ss).toNat), .int .u64 ((Wd.lo ss).toNat), .int .u64 ((Wd.hi si).toNat), .int .u64 ((Wd.lo si).toNat)]), (59, .bool true), (60, .bool false), (57, .bool false)]) ⟨rfl, rfl, rfl, rfl, rfl, rfl, rfl, rfl, rfl, rfl, rfl, rfl, rfl, rfl, rfl, rfl, rfl, rfl, rfl, rfl, rfl, rfl, rfl, rfl, trivial⟩
      refine Sx.drawn F (by kernel_rfl) (by kernel_rfl) (by kernel_rfl) [some (.int .i64 0), some (.bool false), some (.bool false), some (.agg #[.int .u64 ((Wd.hi ((Pc.jump ⟨ss, si⟩ (Wd.of (BitVec.ofNat 64 m))).s)).toNat), .int .u64 ((Wd.lo ((Pc.jump ⟨ss, si⟩ (Wd.of (BitVec.ofNat 64 m))).s)).toNat), .int .u64 ((Wd.hi si).toNat), .int .u64 ((Wd.lo si).toNat)]), some (.agg #[.int .u64 ((Wd.hi ((Pc.jump ⟨ss, si⟩ (Wd.of (BitVec.ofNat 64 m))).s)).toNat), .int .u64 ((Wd.lo ((Pc.jump ⟨ss, si⟩ (Wd.of (BitVec.ofNat 64 m))).s)).toNat), .int .u64 ((Wd.hi si).toNat), .int .u64 ((Wd.lo si).toNat)]), some (.agg #[.int .u64 ((Wd.hi ss).toNat), .int .u64 ((Wd.lo ss).toNat), .int .u64 ((Wd.hi si).toNat), .int .u64 ((Wd.lo si).toNat)]), some (.agg #[.int .u64 ((Wd.hi ss).toNat), .int .u64 ((Wd.lo ss).toNat), .int .u64 ((Wd.hi si).toNat), .int .u64 ((Wd.lo si).toNat)]), some (.int .u16 nn), some (.int .u16 m), some (.int .i64 m), some (.agg #[.int .u64 ((Wd.hi (Pc.its si m ss)).toNat), .int .u64 ((Wd.lo (Pc.its si m ss)).toNat), .int .u64 ((Wd.hi si).toNat), .int .u64 ((Wd.lo si).toNat)]), some (.bool false), some (.bool false), some (.bool false)] (fun L A w => Sx.Own w0 w [(true, g2, [.int .u64 ((Wd.hi 0#128).toNat), .int .u64 ((Wd.lo 0#128).toNat), .int .u64 ((Wd.hi 0#128).toNat), .int .u64 ((Wd.lo 0#128).toNat)]), (true, g1, [.int .u64 ((Wd.hi ss).toNat), .int .u64 ((Wd.lo ss).toNat), .int .u64 ((Wd.hi si).toNat), .int .u64 ((Wd.lo si).toNat)]), (true, g3, [.int .u64 ((Wd.hi ((Pc.jump ⟨ss, si⟩ (Wd.of (BitVec.ofNat 64 m))).s)).toNat), .int .u64 ((Wd.lo ((Pc.jump ⟨ss, si⟩ (Wd.of (BitVec.ofNat 64 m))).s)).toNat), .int .u64 ((Wd.hi si).toNat), .int .u64 ((Wd.lo si).toNat)])] []) H.drew ?_ ?_
      · refine ⟨?_, ?_, ?_, ?_, ?_, ?_, ?_, ?_, ?_, ?_, ?_, ?_, ?_, ?_, trivial⟩
        · show Sx.StepAt _ _ _ _ _ _ _ 0
          intro L A w up hun hd F H
          have F := Sx.Fr.to F (kv' := [(11, .int .i64 0)]) ⟨rfl, trivial⟩
          refine Sx.step_on rfl (Sx.d_move F (Or.inl rfl) rfl) ?_
          rintro xv w' ⟨hx, rfl⟩
          exact ⟨(fun cv hc => hx.trans (Option.some.inj (Option.some.inj hc))), H⟩
        · show Sx.StepAt _ _ _ _ _ _ _ 1
          intro L A w up hun hd F H
          have F := Sx.Fr.to F (kv' := [(84, .int .i64 0)]) ⟨rfl, trivial⟩
          refine Sx.step_on rfl (Sx.d_bin (v := .bool false) F rfl rfl rfl (Sx.i_ne (by decide))) ?_
          rintro xv w' ⟨hx, rfl⟩
          exact ⟨(fun cv hc => hx.trans (Option.some.inj (Option.some.inj hc))), H⟩
        · show Sx.StepAt _ _ _ _ _ _ _ 2
          intro L A w up hun hd F H
          have F := Sx.Fr.to F (kv' := [(85, .bool false)]) ⟨rfl, trivial⟩
          refine Sx.step_on rfl (Sx.d_move F (Or.inl rfl) rfl) ?_
          rintro xv w' ⟨hx, rfl⟩
          exact ⟨(fun cv hc => hx.trans (Option.some.inj (Option.some.inj hc))), H⟩
        · show Sx.StepAt _ _ _ _ _ _ _ 3
          intro L A w up hun hd F H
          have F := Sx.Fr.to F (kv' := [(10, .pointer (some ⟨g3, 0, none⟩)), (86, .bool false)]) ⟨rfl, rfl, trivial⟩
          refine Sx.step_ong rfl (Sx.guard_known (d := 86) (b := false) F rfl rfl) rfl (Sx.d_load (i := 2) (xs := [.int .u64 ((Wd.hi ((Pc.jump ⟨ss, si⟩ (Wd.of (BitVec.ofNat 64 m))).s)).toNat), .int .u64 ((Wd.lo ((Pc.jump ⟨ss, si⟩ (Wd.of (BitVec.ofNat 64 m))).s)).toNat), .int .u64 ((Wd.hi si).toNat), .int .u64 ((Wd.lo si).toNat)]) rw_57 F H rfl rfl rfl rfl rfl) ?_
          rintro xv w' ⟨hx, rfl⟩
          exact ⟨(fun cv hc => hx.trans (Option.some.inj (Option.some.inj hc))), H⟩
        · show Sx.StepAt _ _ _ _ _ _ _ 4
          intro L A w up hun hd F H
          have F := Sx.Fr.to F (kv' := [(87, .agg #[.int .u64 ((Wd.hi ((Pc.jump ⟨ss, si⟩ (Wd.of (BitVec.ofNat 64 m))).s)).toNat), .int .u64 ((Wd.lo ((Pc.jump ⟨ss, si⟩ (Wd.of (BitVec.ofNat 64 m))).s)).toNat), .int .u64 ((Wd.hi si).toNat), .int .u64 ((Wd.lo si).toNat)]), (86, .bool false)]) ⟨rfl, rfl, trivial⟩
          refine Sx.step_ong rfl (Sx.guard_known (d := 86) (b := false) F rfl rfl) rfl (Sx.d_call (vs := [.agg #[.int .u64 ((Wd.hi ((Pc.jump ⟨ss, si⟩ (Wd.of (BitVec.ofNat 64 m))).s)).toNat), .int .u64 ((Wd.lo ((Pc.jump ⟨ss, si⟩ (Wd.of (BitVec.ofNat 64 m))).s)).toNat), .int .u64 ((Wd.hi si).toNat), .int .u64 ((Wd.lo si).toNat)]]) (v := .agg #[.int .u64 ((Wd.hi ((Pc.jump ⟨ss, si⟩ (Wd.of (BitVec.ofNat 64 m))).s)).toNat), .int .u64 ((Wd.lo ((Pc.jump ⟨ss, si⟩ (Wd.of (BitVec.ofNat 64 m))).s)).toNat), .int .u64 ((Wd.hi si).toNat), .int .u64 ((Wd.lo si).toNat)]) if_35 F H rfl rfl (own10_c ((Pc.jump ⟨ss, si⟩ (Wd.of (BitVec.ofNat 64 m))).s) si _)) ?_
          rintro xv w' ⟨hx, H⟩
          exact ⟨(fun cv hc => hx.trans (Option.some.inj (Option.some.inj hc))), H⟩
        · show Sx.StepAt _ _ _ _ _ _ _ 5
          intro L A w up hun hd F H
          have F := Sx.Fr.to F (kv' := [(3, .pointer (some ⟨g1, 0, none⟩)), (86, .bool false)]) ⟨rfl, rfl, trivial⟩
          refine Sx.step_ong rfl (Sx.guard_known (d := 86) (b := false) F rfl rfl) rfl (Sx.d_load (i := 1) (xs := [.int .u64 ((Wd.hi ss).toNat), .int .u64 ((Wd.lo ss).toNat), .int .u64 ((Wd.hi si).toNat), .int .u64 ((Wd.lo si).toNat)]) rw_57 F H rfl rfl rfl rfl rfl) ?_
          rintro xv w' ⟨hx, rfl⟩
          exact ⟨(fun cv hc => hx.trans (Option.some.inj (Option.some.inj hc))), H⟩
        · show Sx.StepAt _ _ _ _ _ _ _ 6
          intro L A w up hun hd F H
          have F := Sx.Fr.to F (kv' := [(89, .agg #[.int .u64 ((Wd.hi ss).toNat), .int .u64 ((Wd.lo ss).toNat), .int .u64 ((Wd.hi si).toNat), .int .u64 ((Wd.lo si).toNat)]), (86, .bool false)]) ⟨rfl, rfl, trivial⟩
          refine Sx.step_ong rfl (Sx.guard_known (d := 86) (b := false) F rfl rfl) rfl (Sx.d_call (vs := [.agg #[.int .u64 ((Wd.hi ss).toNat), .int .u64 ((Wd.lo ss).toNat), .int .u64 ((Wd.hi si).toNat), .int .u64 ((Wd.lo si).toNat)]]) (v := .agg #[.int .u64 ((Wd.hi ss).toNat), .int .u64 ((Wd.lo ss).toNat), .int .u64 ((Wd.hi si).toNat), .int .u64 ((Wd.lo si).toNat)]) if_35 F H rfl rfl (own10_c ss si _)) ?_
          rintro xv w' ⟨hx, H⟩
          exact ⟨(fun cv hc => hx.trans (Option.some.inj (Option.some.inj hc))), H⟩
        · show Sx.StepAt _ _ _ _ _ _ _ 7
          intro L A w up hun hd F H
          have F := Sx.Fr.to F (kv' := [(2, .int .u16 nn), (86, .bool false)]) ⟨rfl, rfl, trivial⟩
          refine Sx.step_ong rfl (Sx.guard_known (d := 86) (b := false) F rfl rfl) rfl (Sx.d_move F (Or.inl rfl) rfl) ?_
          rintro xv w' ⟨hx, rfl⟩
          exact ⟨(fun cv hc => hx.trans (Option.some.inj (Option.some.inj hc))), H⟩
        · show Sx.StepAt _ _ _ _ _ _ _ 8
          intro L A w up hun hd F H
          have F := Sx.Fr.to F (kv' := [(91, .int .u16 nn), (86, .bool false)]) ⟨rfl, rfl, trivial⟩
          refine Sx.step_ong rfl (Sx.guard_known (d := 86) (b := false) F rfl rfl) rfl (Sx.d_bin (v := .int .u16 m) F rfl rfl rfl (Sx.i_rem hm (by decide))) ?_
          rintro xv w' ⟨hx, rfl⟩
          exact ⟨(fun cv hc => hx.trans (Option.some.inj (Option.some.inj hc))), H⟩
        · show Sx.StepAt _ _ _ _ _ _ _ 9
          intro L A w up hun hd F H
          have F := Sx.Fr.to F (kv' := [(92, .int .u16 m), (86, .bool false)]) ⟨rfl, rfl, trivial⟩
          refine Sx.step_ong rfl (Sx.guard_known (d := 86) (b := false) F rfl rfl) rfl (Sx.d_conv (v := .int .i64 m) F rfl rfl (Sx.c_u16_i64 m (by omega))) ?_
          rintro xv w' ⟨hx, rfl⟩
          exact ⟨(fun cv hc => hx.trans (Option.some.inj (Option.some.inj hc))), H⟩
        · show Sx.StepAt _ _ _ _ _ _ _ 10
          intro L A w up hun hd F H
          have F := Sx.Fr.to F (kv' := [(90, .agg #[.int .u64 ((Wd.hi ss).toNat), .int .u64 ((Wd.lo ss).toNat), .int .u64 ((Wd.hi si).toNat), .int .u64 ((Wd.lo si).toNat)]), (93, .int .i64 m), (86, .bool false)]) ⟨rfl, rfl, rfl, trivial⟩
          refine Sx.step_ong rfl (Sx.guard_known (d := 86) (b := false) F rfl rfl) rfl (Sx.d_call (vs := [.agg #[.int .u64 ((Wd.hi ss).toNat), .int .u64 ((Wd.lo ss).toNat), .int .u64 ((Wd.hi si).toNat), .int .u64 ((Wd.lo si).toNat)], .int .i64 m]) (v := .agg #[.int .u64 ((Wd.hi (Pc.its si m ss)).toNat), .int .u64 ((Wd.lo (Pc.its si m ss)).toNat), .int .u64 ((Wd.hi si).toNat), .int .u64 ((Wd.lo si).toNat)]) if_41 F H rfl rfl (rjump10_c ss si m (by omega) _)) ?_
          rintro xv w' ⟨hx, H⟩
          exact ⟨(fun cv hc => hx.trans (Option.some.inj (Option.some.inj hc))), H⟩
        · show Sx.StepAt _ _ _ _ _ _ _ 11
          intro L A w up hun hd F H
          have F := Sx.Fr.to F (kv' := [(88, .agg #[.int .u64 ((Wd.hi ((Pc.jump ⟨ss, si⟩ (Wd.of (BitVec.ofNat 64 m))).s)).toNat), .int .u64 ((Wd.lo ((Pc.jump ⟨ss, si⟩ (Wd.of (BitVec.ofNat 64 m))).s)).toNat), .int .u64 ((Wd.hi si).toNat), .int .u64 ((Wd.lo si).toNat)]), (94, .agg #[.int .u64 ((Wd.hi (Pc.its si m ss)).toNat), .int .u64 ((Wd.lo (Pc.its si m ss)).toNat), .int .u64 ((Wd.hi si).toNat), .int .u64 ((Wd.lo si).toNat)]), (86, .bool false)]) ⟨rfl, rfl, rfl, trivial⟩
          refine Sx.step_ong rfl (Sx.guard_known (d := 86) (b := false) F rfl rfl) rfl (Sx.d_bin (v := .bool false) F rfl rfl rfl (Sx.i_neQ (by rw [show Sx.eqbM ((Pc.jump ⟨ss, si⟩ (Wd.of (BitVec.ofNat 64 m))).s) si (Pc.its si m ss) si = true from Sx.eqbM_true (Pc.jump_few ss si m (by omega)) rfl]; rfl))) ?_
          rintro xv w' ⟨hx, rfl⟩
          exact ⟨(fun cv hc => hx.trans (Option.some.inj (Option.some.inj hc))), H⟩
        · show Sx.StepAt _ _ _ _ _ _ _ 12
          intro L A w up hun hd F H
          have F := Sx.Fr.to F (kv' := [(86, .bool false), (95, .bool false)]) ⟨rfl, rfl, trivial⟩
          refine Sx.step_on rfl (Sx.d_pickF (v := .bool false) F rfl rfl rfl) ?_
          rintro xv w' ⟨hx, rfl⟩
          exact ⟨(fun cv hc => hx.trans (Option.some.inj (Option.some.inj hc))), H⟩
        · show Sx.StepAt _ _ _ _ _ _ _ 13
          intro L A w up hun hd F H
          have F := Sx.Fr.to F (kv' := [(96, .bool false)]) ⟨rfl, trivial⟩
          refine Sx.step_on rfl (Sx.d_move F (Or.inr rfl) rfl) ?_
          rintro xv w' ⟨hx, rfl⟩
          exact ⟨(fun cv hc => hx.trans (Option.some.inj (Option.some.inj hc))), H⟩
      · intro L A w hL F H
        have F := Sx.Fr.to F (kv' := [(0, .agg #[.int .u64 ((Wd.hi ss).toNat), .int .u64 ((Wd.lo ss).toNat), .int .u64 ((Wd.hi si).toNat), .int .u64 ((Wd.lo si).toNat)]), (1, .int .i64 many), (2, .int .u16 nn), (3, .pointer (some ⟨g1, 0, none⟩)), (6, .bool false), (14, .bool true), (15, .bool false), (40, .bool false), (42, .agg #[.int .u64 ((Wd.hi ss).toNat), .int .u64 ((Wd.lo ss).toNat), .int .u64 ((Wd.hi si).toNat), .int .u64 ((Wd.lo si).toNat)]), (43, .int .i64 many), (44, .tuple #[.slice none 0 0, .agg #[.int .u64 ((Wd.hi 0#128).toNat), .int .u64 ((Wd.lo 0#128).toNat), .int .u64 ((Wd.hi 0#128).toNat), .int .u64 ((Wd.lo 0#128).toNat)], .int .i64 1]), (41, .tuple #[.slice none 0 0, .agg #[.int .u64 ((Wd.hi 0#128).toNat), .int .u64 ((Wd.lo 0#128).toNat), .int .u64 ((Wd.hi 0#128).toNat), .int .u64 ((Wd.lo 0#128).toNat)], .int .i64 1]), (45, .slice none 0 0), (46, .agg #[.int .u64 ((Wd.hi 0#128).toNat), .int .u64 ((Wd.lo 0#128).toNat), .int .u64 ((Wd.hi 0#128).toNat), .int .u64 ((Wd.lo 0#128).toNat)]), (47, .int .i64 1), (8, .pointer (some ⟨g2, 0, none⟩)), (7, .slice none 0 0), (9, .int .i64 1), (10, .pointer (some ⟨g3, 0, none⟩)), (11, .int .i64 0), (58, .agg #[.int .u64 ((Wd.hi ss).toNat), .int .u64 ((Wd.lo ss).toNat), .int .u64 ((Wd.hi si).toNat), .int .u64 ((Wd.lo si).toNat)]), (59, .bool true), (60, .bool false), (57, .bool false), (83, .bool false)]) ⟨rfl, rfl, rfl, rfl, rfl, rfl, rfl, rfl, rfl, rfl, rfl, rfl, rfl, rfl, rfl, rfl, rfl, rfl, rfl, rfl, rfl, rfl, rfl, rfl, rfl, trivial⟩
        refine hK10 _ _ ?_
        refine Sx.condF F rfl ?_
        refine Sx.seq (fun K11 hK11 => ?_)
        refine Sx.plain ?_
        refine Sx.sv F (Sx.d_move F (Or.inl rfl) rfl) (Sx.wanted_none rfl _) rfl (by decide) (fun A F => ?_)
        refine Sx.sv F (Sx.d_bin (v := .bool false) F rfl rfl rfl (Sx.i_lt (decide_eq_false (by omega)))) (Sx.wanted_none rfl _) rfl (by decide) (fun A F => ?_)
        refine Sx.sv F (Sx.d_move F (Or.inl rfl) rfl) (Sx.wanted_none rfl _) rfl (by decide) (fun A F => ?_)
        refine Sx.sv F (Sx.d_move F (Or.inl rfl) rfl) (Sx.wanted_on rfl (Sx.guard_known (d := 100) (b := false) F rfl rfl) rfl) rfl (by decide) (fun A F => ?_)
        refine Sx.sv F (Sx.d_bin (v := .bool true) F rfl rfl rfl (Sx.i_gt (decide_eq_true (by omega)))) (Sx.wanted_on rfl (Sx.guard_known (d := 100) (b := false) F rfl rfl) rfl) rfl (by decide) (fun A F => ?_)
        refine Sx.sv F (Sx.d_pickF (v := .bool true) F rfl rfl rfl) (Sx.wanted_none rfl _) rfl (by decide) (fun A F => ?_)
        refine Sx.sv F (Sx.d_move F (Or.inr rfl) rfl) (Sx.wanted_none rfl _) rfl (by decide) (fun A F => ?_)
        refine Sx.nil ?_
        refine hK11 _ _ ?_
        refine Sx.condT F rfl ?_
        refine Sx.seq (fun K12 hK12 => ?_)
        refine Sx.plain ?_
        refine Sx.sv F (Sx.d_move F (Or.inl rfl) rfl) (Sx.wanted_none rfl _) rfl (by decide) (fun A F => ?_)
        refine Sx.sv F (Sx.d_bin (v := .bool true) F rfl rfl rfl (Sx.i_eq (by decide))) (Sx.wanted_none rfl _) rfl (by decide) (fun A F => ?_)
        refine Sx.sv F (Sx.d_move F (Or.inl rfl) rfl) (Sx.wanted_none rfl _) rfl (by decide) (fun A F => ?_)
        refine Sx.sv F (Sx.d_move F (Or.inl rfl) rfl) (Sx.wanted_on rfl (Sx.guard_known (d := 106) (b := true) F rfl rfl) rfl) rfl (by decide) (fun A F => ?_)
        have H := Sx.Own.nilR H 22 1
        refine Sx.sv F (Sx.d_len (i := 0) el_67 F H rfl rfl rfl) (Sx.wanted_on rfl (Sx.guard_known (d := 106) (b := true) F rfl rfl) rfl) rfl (by decide) (fun A F => ?_)
        refine Sx.sv F (Sx.d_bin (v := .bool true) F rfl rfl rfl (Sx.i_eq (by decide))) (Sx.wanted_on rfl (Sx.guard_known (d := 106) (b := true) F rfl rfl) rfl) rfl (by decide) (fun A F => ?_)
        refine Sx.sv F (Sx.d_pickT (v := .bool true) F rfl rfl rfl) (Sx.wanted_none rfl _) rfl (by decide) (fun A F => ?_)
        refine Sx.sv F (Sx.d_move F (Or.inl rfl) rfl) (Sx.wanted_none rfl _) rfl (by decide) (fun A F => ?_)
        refine Sx.sv F (Sx.d_load (i := 0) (xs := [.int .u64 ((Wd.hi 0#128).toNat), .int .u64 ((Wd.lo 0#128).toNat), .int .u64 ((Wd.hi 0#128).toNat), .int .u64 ((Wd.lo 0#128).toNat)]) rw_57 F H rfl rfl rfl rfl rfl) (Sx.wanted_on rfl (Sx.guard_known (d := 111) (b := true) F rfl rfl) rfl) rfl (by decide) (fun A F => ?_)
        refine Sx.sv F (Sx.d_build (qs := #[]) (v := .agg #[.int .u64 ((Wd.hi 0#128).toNat), .int .u64 ((Wd.lo 0#128).toNat), .int .u64 ((Wd.hi 0#128).toNat), .int .u64 ((Wd.lo 0#128).toNat)]) F rfl rfl (by kernel_rfl)) (Sx.wanted_on rfl (Sx.guard_known (d := 111) (b := true) F rfl rfl) rfl) rfl (by decide) (fun A F => ?_)
        refine Sx.sv F (Sx.d_bin (v := .bool true) F rfl rfl rfl (Sx.i_eqP (Sx.eqbM_true rfl rfl))) (Sx.wanted_on rfl (Sx.guard_known (d := 111) (b := true) F rfl rfl) rfl) rfl (by decide) (fun A F => ?_)
        refine Sx.sv F (Sx.d_pickT (v := .bool true) F rfl rfl rfl) (Sx.wanted_none rfl _) rfl (by decide) (fun A F => ?_)
        refine Sx.sv F (Sx.d_move F (Or.inr rfl) rfl) (Sx.wanted_none rfl _) rfl (by decide) (fun A F => ?_)
        refine Sx.nil ?_
        refine hK12 _ _ ?_
        refine wp_ret ?_
        try dsimp only [Exit.then, Exit.inBlock, Exit.jump]
        refine Sx.ret1 F Try.results7 (Sx.res_tmp (v := .bool true) F rfl) ⟨?_, H.below⟩
        rfl
set_option maxHeartbeats 4000000 in
set_option maxRecDepth 100000 in
theorem pcgTells_ok (ss si : BitVec 128) (nn : Nat) (hnn : nn < 65536) (n : Nat) (ho : Af.odd si = true) (hn : n ≤ 256) (w0 : World) : Calls Try.prog 7 #[.agg #[.int .u64 ((Wd.hi ss).toNat), .int .u64 ((Wd.lo ss).toNat), .int .u64 ((Wd.hi si).toNat), .int .u64 ((Wd.lo si).toNat)], .int .i64 n, .int .u16 nn] w0 fun e w' => e = .returned (.bool true) ∧ Below w0.heap.size w0 w' := by
  obtain ⟨m, hm⟩ : ∃ m, nn % 300 = m := ⟨_, rfl⟩
  have hm1 : m < 300 := by omega
  refine Sx.enter (args := [.agg #[.int .u64 ((Wd.hi ss).toNat), .int .u64 ((Wd.lo ss).toNat), .int .u64 ((Wd.hi si).toNat), .int .u64 ((Wd.lo si).toNat)], .int .i64 n, .int .u16 nn]) Try.func7 rfl Try.ntmps7 (Nat.le_of_ble_eq_true rfl) (fun A F => ?_)
  have H := Sx.Own.start w0
  refine Sx.seq (fun K1 hK1 => ?_)
  refine Sx.plain ?_
  refine Sx.sb F (Sx.d_box F H rfl rfl [.int .u64 ((Wd.hi ss).toNat), .int .u64 ((Wd.lo ss).toNat), .int .u64 ((Wd.hi si).toNat), .int .u64 ((Wd.lo si).toNat)] rfl) (Sx.wanted_none rfl _) rfl (by decide) (fun g1 A w F H => ?_)
  refine Sx.sv F (Sx.d_move F (Or.inr rfl) rfl) (Sx.wanted_none rfl _) rfl (by decide) (fun A F => ?_)
  refine Sx.nil ?_
  refine hK1 _ _ ?_
  refine Sx.seq (fun K2 hK2 => ?_)
  refine Sx.seq (fun K3 hK3 => ?_)
  refine Sx.plain ?_
  refine Sx.sw F (Sx.d_call (vs := []) (v := .bool true) if_32 F H rfl rfl (awake10_c _)) (Sx.wanted_none rfl _) rfl (by decide) (fun A w F H => ?_)
  refine Sx.sv F (Sx.d_un (v := .bool false) F rfl rfl rfl) (Sx.wanted_none rfl _) rfl (by decide) (fun A F => ?_)
  refine Sx.nil ?_
  refine hK3 _ _ ?_
  refine Sx.condF F rfl ?_
  refine wp_skip ?_
  refine hK2 _ _ ?_
  refine Sx.seq (fun K4 hK4 => ?_)
  refine Sx.seq (fun K5 hK5 => ?_)
  have F := Sx.Fr.to F (kv' := [(0, .agg #[.int .u64 ((Wd.hi ss).toNat), .int .u64 ((Wd.lo ss).toNat), .int .u64 ((Wd.hi si).toNat), .int .u64 ((Wd.lo si).toNat)]), (1, .int .i64 n), (2, .int .u16 nn), (3, .pointer (some ⟨g1, 0, none⟩)), (6, .bool false), (14, .bool true), (15, .bool false)]) ⟨rfl, rfl, rfl, rfl, rfl, rfl, rfl, trivial⟩
  refine Sx.drawn F (by kernel_rfl) (by kernel_rfl) (by kernel_rfl) [some (.agg #[.int .u64 ((Wd.hi ss).toNat), .int .u64 ((Wd.lo ss).toNat), .int .u64 ((Wd.hi si).toNat), .int .u64 ((Wd.lo si).toNat)]), some (.int .u64 ((Pc.word ss).toNat)), some (.agg #[.int .u64 ((Wd.hi ss).toNat), .int .u64 ((Wd.lo ss).toNat), .int .u64 ((Wd.hi si).toNat), .int .u64 ((Wd.lo si).toNat)]), some (.agg #[.int .u64 ((Wd.hi ss).toNat), .int .u64 ((Wd.lo ss).toNat), .int .u64 ((Wd.hi si).toNat), .int .u64 ((Wd.lo si).toNat)]), some (.int .u64 ((Pc.word ss).toNat)), some (.bool false), some (.bool false), some (.agg #[.int .u64 ((Wd.hi ss).toNat), .int .u64 ((Wd.lo ss).toNat), .int .u64 ((Wd.hi si).toNat), .int .u64 ((Wd.lo si).toNat)]), some (.agg #[.int .u64 ((Wd.hi ((Pc.step ⟨ss, si⟩).s)).toNat), .int .u64 ((Wd.lo ((Pc.step ⟨ss, si⟩).s)).toNat), .int .u64 ((Wd.hi si).toNat), .int .u64 ((Wd.lo si).toNat)]), some (.agg #[.int .u64 ((Wd.hi ((Pc.step ⟨ss, si⟩).s)).toNat), .int .u64 ((Wd.lo ((Pc.step ⟨ss, si⟩).s)).toNat), .int .u64 ((Wd.hi si).toNat), .int .u64 ((Wd.lo si).toNat)]), some (.agg #[.int .u64 ((Wd.hi ss).toNat), .int .u64 ((Wd.lo ss).toNat), .int .u64 ((Wd.hi si).toNat), .int .u64 ((Wd.lo si).toNat)]), some (.agg #[.int .u64 ((Wd.hi ss).toNat), .int .u64 ((Wd.lo ss).toNat), .int .u64 ((Wd.hi si).toNat), .int .u64 ((Wd.lo si).toNat)]), some (.agg #[.int .u64 ((Wd.hi ((Pc.step ⟨ss, si⟩).s)).toNat), .int .u64 ((Wd.lo ((Pc.step ⟨ss, si⟩).s)).toNat), .int .u64 ((Wd.hi si).toNat), .int .u64 ((Wd.lo si).toNat)]), some (.bool false), some (.bool false), some (.bool false), some (.agg #[.int .u64 ((Wd.hi ss).toNat), .int .u64 ((Wd.lo ss).toNat), .int .u64 ((Wd.hi si).toNat), .int .u64 ((Wd.lo si).toNat)]), some (.bool true), some (.pointer (some ⟨g1, 2, none⟩)), some (.pointer (some ⟨g1, 3, none⟩)), some (.int .u64 ((Wd.lo si).toNat)), some (.int .u64 (((Wd.lo si) % 2#64).toNat)), some (.bool true), some (.bool false), some (.bool false)] (fun L A w => Sx.Own w0 w [(true, g1, [.int .u64 ((Wd.hi ss).toNat), .int .u64 ((Wd.lo ss).toNat), .int .u64 ((Wd.hi si).toNat), .int .u64 ((Wd.lo si).toNat)])] []) H.drew ?_ ?_
  · refine ⟨?_, ?_, ?_, ?_, ?_, ?_, ?_, ?_, ?_, ?_, ?_, ?_, ?_, ?_, ?_, ?_, ?_, ?_, ?_, ?_, ?_, ?_, ?_, ?_, ?_, trivial⟩
    · show Sx.StepAt _ _ _ _ _ _ _ 0
      intro L A w up hun hd F H
      have F := Sx.Fr.to F (kv' := [(3, .pointer (some ⟨g1, 0, none⟩))]) ⟨rfl, trivial⟩
      refine Sx.step_on rfl (Sx.d_load (i := 0) (xs := [.int .u64 ((Wd.hi ss).toNat), .int .u64 ((Wd.lo ss).toNat), .int .u64 ((Wd.hi si).toNat), .int .u64 ((Wd.lo si).toNat)]) rw_57 F H rfl rfl rfl rfl rfl) ?_
      rintro xv w' ⟨hx, rfl⟩
      exact ⟨(fun cv hc => hx.trans (Option.some.inj (Option.some.inj hc))), H⟩
    · show Sx.StepAt _ _ _ _ _ _ _ 1
      intro L A w up hun hd F H
      have F := Sx.Fr.to F (kv' := [(16, .agg #[.int .u64 ((Wd.hi ss).toNat), .int .u64 ((Wd.lo ss).toNat), .int .u64 ((Wd.hi si).toNat), .int .u64 ((Wd.lo si).toNat)])]) ⟨rfl, trivial⟩
      refine Sx.step_on rfl (Sx.d_call (vs := [.agg #[.int .u64 ((Wd.hi ss).toNat), .int .u64 ((Wd.lo ss).toNat), .int .u64 ((Wd.hi si).toNat), .int .u64 ((Wd.lo si).toNat)]]) (v := .int .u64 ((Pc.word ss).toNat)) if_33 F H rfl rfl (pword_c ss si _)) ?_
      rintro xv w' ⟨hx, H⟩
      exact ⟨(fun cv hc => hx.trans (Option.some.inj (Option.some.inj hc))), H⟩
    · show Sx.StepAt _ _ _ _ _ _ _ 2
      intro L A w up hun hd F H
      have F := Sx.Fr.to F (kv' := [(3, .pointer (some ⟨g1, 0, none⟩))]) ⟨rfl, trivial⟩
      refine Sx.step_on rfl (Sx.d_load (i := 0) (xs := [.int .u64 ((Wd.hi ss).toNat), .int .u64 ((Wd.lo ss).toNat), .int .u64 ((Wd.hi si).toNat), .int .u64 ((Wd.lo si).toNat)]) rw_57 F H rfl rfl rfl rfl rfl) ?_
      rintro xv w' ⟨hx, rfl⟩
      exact ⟨(fun cv hc => hx.trans (Option.some.inj (Option.some.inj hc))), H⟩
    · show Sx.StepAt _ _ _ _ _ _ _ 3
      intro L A w up hun hd F H
      have F := Sx.Fr.to F (kv' := [(18, .agg #[.int .u64 ((Wd.hi ss).toNat), .int .u64 ((Wd.lo ss).toNat), .int .u64 ((Wd.hi si).toNat), .int .u64 ((Wd.lo si).toNat)])]) ⟨rfl, trivial⟩
      refine Sx.step_on rfl (Sx.d_call (vs := [.agg #[.int .u64 ((Wd.hi ss).toNat), .int .u64 ((Wd.lo ss).toNat), .int .u64 ((Wd.hi si).toNat), .int .u64 ((Wd.lo si).toNat)]]) (v := .agg #[.int .u64 ((Wd.hi ss).toNat), .int .u64 ((Wd.lo ss).toNat), .int .u64 ((Wd.hi si).toNat), .int .u64 ((Wd.lo si).toNat)]) if_35 F H rfl rfl (own10_c ss si _)) ?_
      rintro xv w' ⟨hx, H⟩
      exact ⟨(fun cv hc => hx.trans (Option.some.inj (Option.some.inj hc))), H⟩
    · show Sx.StepAt _ _ _ _ _ _ _ 4
      intro L A w up hun hd F H
      have F := Sx.Fr.to F (kv' := [(19, .agg #[.int .u64 ((Wd.hi ss).toNat), .int .u64 ((Wd.lo ss).toNat), .int .u64 ((Wd.hi si).toNat), .int .u64 ((Wd.lo si).toNat)])]) ⟨rfl, trivial⟩
      refine Sx.step_on rfl (Sx.d_call (vs := [.agg #[.int .u64 ((Wd.hi ss).toNat), .int .u64 ((Wd.lo ss).toNat), .int .u64 ((Wd.hi si).toNat), .int .u64 ((Wd.lo si).toNat)]]) (v := .int .u64 ((Pc.word ss).toNat)) if_34 F H rfl rfl (rword10_c ss si _)) ?_
      rintro xv w' ⟨hx, H⟩
      exact ⟨(fun cv hc => hx.trans (Option.some.inj (Option.some.inj hc))), H⟩
    · show Sx.StepAt _ _ _ _ _ _ _ 5
      intro L A w up hun hd F H
      have F := Sx.Fr.to F (kv' := [(17, .int .u64 ((Pc.word ss).toNat)), (20, .int .u64 ((Pc.word ss).toNat))]) ⟨rfl, rfl, trivial⟩
      refine Sx.step_on rfl (Sx.d_bin (v := .bool false) F rfl rfl rfl (Sx.i_ne (by simp))) ?_
      rintro xv w' ⟨hx, rfl⟩
      exact ⟨(fun cv hc => hx.trans (Option.some.inj (Option.some.inj hc))), H⟩
    · show Sx.StepAt _ _ _ _ _ _ _ 6
      intro L A w up hun hd F H
      have F := Sx.Fr.to F (kv' := [(21, .bool false)]) ⟨rfl, trivial⟩
      refine Sx.step_on rfl (Sx.d_move F (Or.inl rfl) rfl) ?_
      rintro xv w' ⟨hx, rfl⟩
      exact ⟨(fun cv hc => hx.trans (Option.some.inj (Option.some.inj hc))), H⟩
    · show Sx.StepAt _ _ _ _ _ _ _ 7
      intro L A w up hun hd F H
      have F := Sx.Fr.to F (kv' := [(3, .pointer (some ⟨g1, 0, none⟩)), (22, .bool false)]) ⟨rfl, rfl, trivial⟩
      refine Sx.step_ong rfl (Sx.guard_known (d := 22) (b := false) F rfl rfl) rfl (Sx.d_load (i := 0) (xs := [.int .u64 ((Wd.hi ss).toNat), .int .u64 ((Wd.lo ss).toNat), .int .u64 ((Wd.hi si).toNat), .int .u64 ((Wd.lo si).toNat)]) rw_57 F H rfl rfl rfl rfl rfl) ?_
      rintro xv w' ⟨hx, rfl⟩
      exact ⟨(fun cv hc => hx.trans (Option.some.inj (Option.some.inj hc))), H⟩
    · show Sx.StepAt _ _ _ _ _ _ _ 8
      intro L A w up hun hd F H
      have F := Sx.Fr.to F (kv' := [(23, .agg #[.int .u64 ((Wd.hi ss).toNat), .int .u64 ((Wd.lo ss).toNat), .int .u64 ((Wd.hi si).toNat), .int .u64 ((Wd.lo si).toNat)]), (22, .bool false)]) ⟨rfl, rfl, trivial⟩
      refine Sx.step_ong rfl (Sx.guard_known (d := 22) (b := false) F rfl rfl) rfl (Sx.d_call (vs := [.agg #[.int .u64 ((Wd.hi ss).toNat), .int .u64 ((Wd.lo ss).toNat), .int .u64 ((Wd.hi si).toNat), .int .u64 ((Wd.lo si).toNat)]]) (v := .agg #[.int .u64 ((Wd.hi ((Pc.step ⟨ss, si⟩).s)).toNat), .int .u64 ((Wd.lo ((Pc.step ⟨ss, si⟩).s)).toNat), .int .u64 ((Wd.hi si).toNat), .int .u64 ((Wd.lo si).toNat)]) if_36 F H rfl rfl (pstep_c ss si _)) ?_
      rintro xv w' ⟨hx, H⟩
      exact ⟨(fun cv hc => hx.trans (Option.some.inj (Option.some.inj hc))), H⟩
    · show Sx.StepAt _ _ _ _ _ _ _ 9
      intro L A w up hun hd F H
      have F := Sx.Fr.to F (kv' := [(24, .agg #[.int .u64 ((Wd.hi ((Pc.step ⟨ss, si⟩).s)).toNat), .int .u64 ((Wd.lo ((Pc.step ⟨ss, si⟩).s)).toNat), .int .u64 ((Wd.hi si).toNat), .int .u64 ((Wd.lo si).toNat)]), (22, .bool false)]) ⟨rfl, rfl, trivial⟩
      refine Sx.step_ong rfl (Sx.guard_known (d := 22) (b := false) F rfl rfl) rfl (Sx.d_call (vs := [.agg #[.int .u64 ((Wd.hi ((Pc.step ⟨ss, si⟩).s)).toNat), .int .u64 ((Wd.lo ((Pc.step ⟨ss, si⟩).s)).toNat), .int .u64 ((Wd.hi si).toNat), .int .u64 ((Wd.lo si).toNat)]]) (v := .agg #[.int .u64 ((Wd.hi ((Pc.step ⟨ss, si⟩).s)).toNat), .int .u64 ((Wd.lo ((Pc.step ⟨ss, si⟩).s)).toNat), .int .u64 ((Wd.hi si).toNat), .int .u64 ((Wd.lo si).toNat)]) if_35 F H rfl rfl (own10_c ((Pc.step ⟨ss, si⟩).s) si _)) ?_
      rintro xv w' ⟨hx, H⟩
      exact ⟨(fun cv hc => hx.trans (Option.some.inj (Option.some.inj hc))), H⟩
    · show Sx.StepAt _ _ _ _ _ _ _ 10
      intro L A w up hun hd F H
      have F := Sx.Fr.to F (kv' := [(3, .pointer (some ⟨g1, 0, none⟩)), (22, .bool false)]) ⟨rfl, rfl, trivial⟩
      refine Sx.step_ong rfl (Sx.guard_known (d := 22) (b := false) F rfl rfl) rfl (Sx.d_load (i := 0) (xs := [.int .u64 ((Wd.hi ss).toNat), .int .u64 ((Wd.lo ss).toNat), .int .u64 ((Wd.hi si).toNat), .int .u64 ((Wd.lo si).toNat)]) rw_57 F H rfl rfl rfl rfl rfl) ?_
      rintro xv w' ⟨hx, rfl⟩
      exact ⟨(fun cv hc => hx.trans (Option.some.inj (Option.some.inj hc))), H⟩
    · show Sx.StepAt _ _ _ _ _ _ _ 11
      intro L A w up hun hd F H
      have F := Sx.Fr.to F (kv' := [(26, .agg #[.int .u64 ((Wd.hi ss).toNat), .int .u64 ((Wd.lo ss).toNat), .int .u64 ((Wd.hi si).toNat), .int .u64 ((Wd.lo si).toNat)]), (22, .bool false)]) ⟨rfl, rfl, trivial⟩
      refine Sx.step_ong rfl (Sx.guard_known (d := 22) (b := false) F rfl rfl) rfl (Sx.d_call (vs := [.agg #[.int .u64 ((Wd.hi ss).toNat), .int .u64 ((Wd.lo ss).toNat), .int .u64 ((Wd.hi si).toNat), .int .u64 ((Wd.lo si).toNat)]]) (v := .agg #[.int .u64 ((Wd.hi ss).toNat), .int .u64 ((Wd.lo ss).toNat), .int .u64 ((Wd.hi si).toNat), .int .u64 ((Wd.lo si).toNat)]) if_35 F H rfl rfl (own10_c ss si _)) ?_
      rintro xv w' ⟨hx, H⟩
      exact ⟨(fun cv hc => hx.trans (Option.some.inj (Option.some.inj hc))), H⟩
    · show Sx.StepAt _ _ _ _ _ _ _ 12
      intro L A w up hun hd F H
      have F := Sx.Fr.to F (kv' := [(27, .agg #[.int .u64 ((Wd.hi ss).toNat), .int .u64 ((Wd.lo ss).toNat), .int .u64 ((Wd.hi si).toNat), .int .u64 ((Wd.lo si).toNat)]), (22, .bool false)]) ⟨rfl, rfl, trivial⟩
      refine Sx.step_ong rfl (Sx.guard_known (d := 22) (b := false) F rfl rfl) rfl (Sx.d_call (vs := [.agg #[.int .u64 ((Wd.hi ss).toNat), .int .u64 ((Wd.lo ss).toNat), .int .u64 ((Wd.hi si).toNat), .int .u64 ((Wd.lo si).toNat)]]) (v := .agg #[.int .u64 ((Wd.hi ((Pc.step ⟨ss, si⟩).s)).toNat), .int .u64 ((Wd.lo ((Pc.step ⟨ss, si⟩).s)).toNat), .int .u64 ((Wd.hi si).toNat), .int .u64 ((Wd.lo si).toNat)]) if_37 F H rfl rfl (rstep10_c ss si _)) ?_
      rintro xv w' ⟨hx, H⟩
      exact ⟨(fun cv hc => hx.trans (Option.some.inj (Option.some.inj hc))), H⟩
    · show Sx.StepAt _ _ _ _ _ _ _ 13
      intro L A w up hun hd F H
      have F := Sx.Fr.to F (kv' := [(25, .agg #[.int .u64 ((Wd.hi ((Pc.step ⟨ss, si⟩).s)).toNat), .int .u64 ((Wd.lo ((Pc.step ⟨ss, si⟩).s)).toNat), .int .u64 ((Wd.hi si).toNat), .int .u64 ((Wd.lo si).toNat)]), (28, .agg #[.int .u64 ((Wd.hi ((Pc.step ⟨ss, si⟩).s)).toNat), .int .u64 ((Wd.lo ((Pc.step ⟨ss, si⟩).s)).toNat), .int .u64 ((Wd.hi si).toNat), .int .u64 ((Wd.lo si).toNat)]), (22, .bool false)]) ⟨rfl, rfl, rfl, trivial⟩
      refine Sx.step_ong rfl (Sx.guard_known (d := 22) (b := false) F rfl rfl) rfl (Sx.d_bin (v := .bool false) F rfl rfl rfl (Sx.i_neQ (by rw [show Sx.eqbM ((Pc.step ⟨ss, si⟩).s) si ((Pc.step ⟨ss, si⟩).s) si = true from Sx.eqbM_true rfl rfl]; rfl))) ?_
      rintro xv w' ⟨hx, rfl⟩
      exact ⟨(fun cv hc => hx.trans (Option.some.inj (Option.some.inj hc))), H⟩
    · show Sx.StepAt _ _ _ _ _ _ _ 14
      intro L A w up hun hd F H
      have F := Sx.Fr.to F (kv' := [(22, .bool false), (29, .bool false)]) ⟨rfl, rfl, trivial⟩
      refine Sx.step_on rfl (Sx.d_pickF (v := .bool false) F rfl rfl rfl) ?_
      rintro xv w' ⟨hx, rfl⟩
      exact ⟨(fun cv hc => hx.trans (Option.some.inj (Option.some.inj hc))), H⟩
    · show Sx.StepAt _ _ _ _ _ _ _ 15
      intro L A w up hun hd F H
      have F := Sx.Fr.to F (kv' := [(30, .bool false)]) ⟨rfl, trivial⟩
      refine Sx.step_on rfl (Sx.d_move F (Or.inl rfl) rfl) ?_
      rintro xv w' ⟨hx, rfl⟩
      exact ⟨(fun cv hc => hx.trans (Option.some.inj (Option.some.inj hc))), H⟩
    · show Sx.StepAt _ _ _ _ _ _ _ 16
      intro L A w up hun hd F H
      have F := Sx.Fr.to F (kv' := [(3, .pointer (some ⟨g1, 0, none⟩)), (31, .bool false)]) ⟨rfl, rfl, trivial⟩
      refine Sx.step_ong rfl (Sx.guard_known (d := 31) (b := false) F rfl rfl) rfl (Sx.d_load (i := 0) (xs := [.int .u64 ((Wd.hi ss).toNat), .int .u64 ((Wd.lo ss).toNat), .int .u64 ((Wd.hi si).toNat), .int .u64 ((Wd.lo si).toNat)]) rw_57 F H rfl rfl rfl rfl rfl) ?_
      rintro xv w' ⟨hx, rfl⟩
      exact ⟨(fun cv hc => hx.trans (Option.some.inj (Option.some.inj hc))), H⟩
    · show Sx.StepAt _ _ _ _ _ _ _ 17
      intro L A w up hun hd F H
      have F := Sx.Fr.to F (kv' := [(32, .agg #[.int .u64 ((Wd.hi ss).toNat), .int .u64 ((Wd.lo ss).toNat), .int .u64 ((Wd.hi si).toNat), .int .u64 ((Wd.lo si).toNat)]), (31, .bool false)]) ⟨rfl, rfl, trivial⟩
      refine Sx.step_ong rfl (Sx.guard_known (d := 31) (b := false) F rfl rfl) rfl (Sx.d_call (vs := [.agg #[.int .u64 ((Wd.hi ss).toNat), .int .u64 ((Wd.lo ss).toNat), .int .u64 ((Wd.hi si).toNat), .int .u64 ((Wd.lo si).toNat)]]) (v := .bool true) if_38 F H rfl rfl (Calls.val (pright_c ss si _) rfl (congrArg Value.bool (ho)))) ?_
      rintro xv w' ⟨hx, H⟩
      exact ⟨(fun cv hc => hx.trans (Option.some.inj (Option.some.inj hc))), H⟩
    · show Sx.StepAt _ _ _ _ _ _ _ 18
      intro L A w up hun hd F H
      have F := Sx.Fr.to F (kv' := [(3, .pointer (some ⟨g1, 0, none⟩)), (31, .bool false)]) ⟨rfl, rfl, trivial⟩
      refine Sx.step_ong rfl (Sx.guard_known (d := 31) (b := false) F rfl rfl) rfl (Sx.d_faddr (v := .pointer (some ⟨g1, 2, none⟩)) F rfl rfl (fa_57_1 _ 0 _)) ?_
      rintro xv w' ⟨hx, rfl⟩
      exact ⟨(fun cv hc => hx.trans (Option.some.inj (Option.some.inj hc))), H⟩
    · show Sx.StepAt _ _ _ _ _ _ _ 19
      intro L A w up hun hd F H
      have F := Sx.Fr.to F (kv' := [(34, .pointer (some ⟨g1, 2, none⟩)), (31, .bool false)]) ⟨rfl, rfl, trivial⟩
      refine Sx.step_ong rfl (Sx.guard_known (d := 31) (b := false) F rfl rfl) rfl (Sx.d_faddr (v := .pointer (some ⟨g1, 3, none⟩)) F rfl rfl (fa_24_1 _ 2 _)) ?_
      rintro xv w' ⟨hx, rfl⟩
      exact ⟨(fun cv hc => hx.trans (Option.some.inj (Option.some.inj hc))), H⟩
    · show Sx.StepAt _ _ _ _ _ _ _ 20
      intro L A w up hun hd F H
      have F := Sx.Fr.to F (kv' := [(35, .pointer (some ⟨g1, 3, none⟩)), (31, .bool false)]) ⟨rfl, rfl, trivial⟩
      refine Sx.step_ong rfl (Sx.guard_known (d := 31) (b := false) F rfl rfl) rfl (Sx.d_load1 (i := 0) (v := .int .u64 ((Wd.lo si).toNat)) one_22 F H rfl rfl rfl rfl) ?_
      rintro xv w' ⟨hx, rfl⟩
      exact ⟨(fun cv hc => hx.trans (Option.some.inj (Option.some.inj hc))), H⟩
    · show Sx.StepAt _ _ _ _ _ _ _ 21
      intro L A w up hun hd F H
      have F := Sx.Fr.to F (kv' := [(36, .int .u64 ((Wd.lo si).toNat)), (31, .bool false)]) ⟨rfl, rfl, trivial⟩
      refine Sx.step_ong rfl (Sx.guard_known (d := 31) (b := false) F rfl rfl) rfl (Sx.d_bin (v := .int .u64 (((Wd.lo si) % 2#64).toNat)) F rfl rfl rfl (Sx.i_rem64 (Wd.lo si) 2#64 (by decide))) ?_
      rintro xv w' ⟨hx, rfl⟩
      exact ⟨(fun cv hc => hx.trans (Option.some.inj (Option.some.inj hc))), H⟩
    · show Sx.StepAt _ _ _ _ _ _ _ 22
      intro L A w up hun hd F H
      have F := Sx.Fr.to F (kv' := [(37, .int .u64 (((Wd.lo si) % 2#64).toNat)), (31, .bool false)]) ⟨rfl, rfl, trivial⟩
      refine Sx.step_ong rfl (Sx.guard_known (d := 31) (b := false) F rfl rfl) rfl (Sx.d_bin (v := .bool true) F rfl rfl rfl (Sx.i_eq ((Pc.lo_bit si).trans ho))) ?_
      rintro xv w' ⟨hx, rfl⟩
      exact ⟨(fun cv hc => hx.trans (Option.some.inj (Option.some.inj hc))), H⟩
    · show Sx.StepAt _ _ _ _ _ _ _ 23
      intro L A w up hun hd F H
      have F := Sx.Fr.to F (kv' := [(33, .bool true), (38, .bool true), (31, .bool false)]) ⟨rfl, rfl, rfl, trivial⟩
      refine Sx.step_ong rfl (Sx.guard_known (d := 31) (b := false) F rfl rfl) rfl (Sx.d_bin (v := .bool false) F rfl rfl rfl (Sx.b_ne (by simp))) ?_
      rintro xv w' ⟨hx, rfl⟩
      exact ⟨(fun cv hc => hx.trans (Option.some.inj (Option.some.inj hc))), H⟩
    · show Sx.StepAt _ _ _ _ _ _ _ 24
      intro L A w up hun hd F H
      have F := Sx.Fr.to F (kv' := [(31, .bool false), (39, .bool false)]) ⟨rfl, rfl, trivial⟩
      refine Sx.step_on rfl (Sx.d_pickF (v := .bool false) F rfl rfl rfl) ?_
      rintro xv w' ⟨hx, rfl⟩
      exact ⟨(fun cv hc => hx.trans (Option.some.inj (Option.some.inj hc))), H⟩
  · intro L A w hL F H
    have F := Sx.Fr.to F (kv' := [(0, .agg #[.int .u64 ((Wd.hi ss).toNat), .int .u64 ((Wd.lo ss).toNat), .int .u64 ((Wd.hi si).toNat), .int .u64 ((Wd.lo si).toNat)]), (1, .int .i64 n), (2, .int .u16 nn), (3, .pointer (some ⟨g1, 0, none⟩)), (6, .bool false), (14, .bool true), (15, .bool false), (40, .bool false)]) ⟨rfl, rfl, rfl, rfl, rfl, rfl, rfl, rfl, trivial⟩
    refine hK5 _ _ ?_
    refine Sx.condF F rfl ?_
    refine wp_skip ?_
    refine hK4 _ _ ?_
    refine Sx.seq (fun K6 hK6 => ?_)
    refine Sx.plain ?_
    refine Sx.sv F (Sx.d_load (i := 0) (xs := [.int .u64 ((Wd.hi ss).toNat), .int .u64 ((Wd.lo ss).toNat), .int .u64 ((Wd.hi si).toNat), .int .u64 ((Wd.lo si).toNat)]) rw_57 F H rfl rfl rfl rfl rfl) (Sx.wanted_none rfl _) rfl (by decide) (fun A F => ?_)
    refine Sx.sv F (Sx.d_move F (Or.inl rfl) rfl) (Sx.wanted_none rfl _) rfl (by decide) (fun A F => ?_)
    refine Sx.sr (mk := fun v => .tuple #[v, .agg #[.int .u64 ((Wd.hi (Pc.its si n ss)).toNat), .int .u64 ((Wd.lo (Pc.its si n ss)).toNat), .int .u64 ((Wd.hi si).toNat), .int .u64 ((Wd.lo si).toNat)], .int .i64 0]) F (Sx.d_callR (vs := [.agg #[.int .u64 ((Wd.hi ss).toNat), .int .u64 ((Wd.lo ss).toNat), .int .u64 ((Wd.hi si).toNat), .int .u64 ((Wd.lo si).toNat)], .int .i64 n]) (mk := fun v => .tuple #[v, .agg #[.int .u64 ((Wd.hi (Pc.its si n ss)).toNat), .int .u64 ((Wd.lo (Pc.its si n ss)).toNat), .int .u64 ((Wd.hi si).toNat), .int .u64 ((Wd.lo si).toNat)], .int .i64 0]) if_39 F H rfl rfl (pwords_ok ss si n (ho) (by omega) _)) (Sx.wanted_none rfl _) rfl (by decide) (fun v1 A w F (H : Sx.Own w0 _ [(true, g1, [.int .u64 ((Wd.hi ss).toNat), .int .u64 ((Wd.lo ss).toNat), .int .u64 ((Wd.hi si).toNat), .int .u64 ((Wd.lo si).toNat)])] [⟨true, v1, 22, 1, n, (u64s (Pc.words si n ss))⟩]) => ?_)
    refine Sx.sv F (Sx.d_move F (Or.inl rfl) rfl) (Sx.wanted_none rfl _) rfl (by decide) (fun A F => ?_)
    refine Sx.sv F (Sx.d_extract (v := v1) F rfl rfl rfl) (Sx.wanted_none rfl _) rfl (by decide) (fun A F => ?_)
    refine Sx.sv F (Sx.d_extract (v := .agg #[.int .u64 ((Wd.hi (Pc.its si n ss)).toNat), .int .u64 ((Wd.lo (Pc.its si n ss)).toNat), .int .u64 ((Wd.hi si).toNat), .int .u64 ((Wd.lo si).toNat)]) F rfl rfl rfl) (Sx.wanted_none rfl _) rfl (by decide) (fun A F => ?_)
    refine Sx.sv F (Sx.d_extract (v := .int .i64 0) F rfl rfl rfl) (Sx.wanted_none rfl _) rfl (by decide) (fun A F => ?_)
    refine Sx.sb F (Sx.d_alloc H rfl [.int .u64 ((Wd.hi 0#128).toNat), .int .u64 ((Wd.lo 0#128).toNat), .int .u64 ((Wd.hi 0#128).toNat), .int .u64 ((Wd.lo 0#128).toNat)] zero_57) (Sx.wanted_none rfl _) rfl (by decide) (fun g2 A w F H => ?_)
    refine Sx.sv F (Sx.d_move F (Or.inr rfl) rfl) (Sx.wanted_none rfl _) rfl (by decide) (fun A F => ?_)
    refine Sx.ss F (Sx.d_store (i := 0) (xs := [.int .u64 ((Wd.hi (Pc.its si n ss)).toNat), .int .u64 ((Wd.lo (Pc.its si n ss)).toNat), .int .u64 ((Wd.hi si).toNat), .int .u64 ((Wd.lo si).toNat)]) (us := [.int .u64 ((Wd.hi (Pc.its si n ss)).toNat), .int .u64 ((Wd.lo (Pc.its si n ss)).toNat), .int .u64 ((Wd.hi si).toNat), .int .u64 ((Wd.lo si).toNat)]) sz_57 F H rfl rfl rfl rfl rfl rfl rfl (Nat.le_of_ble_eq_true rfl) rfl) (Sx.wanted_none rfl _) rfl (fun A w F (H : Sx.Own w0 _ [(true, g2, [.int .u64 ((Wd.hi (Pc.its si n ss)).toNat), .int .u64 ((Wd.lo (Pc.its si n ss)).toNat), .int .u64 ((Wd.hi si).toNat), .int .u64 ((Wd.lo si).toNat)]), (true, g1, [.int .u64 ((Wd.hi ss).toNat), .int .u64 ((Wd.lo ss).toNat), .int .u64 ((Wd.hi si).toNat), .int .u64 ((Wd.lo si).toNat)])] [⟨true, v1, 22, 1, n, (u64s (Pc.words si n ss))⟩]) => ?_)
    refine Sx.sv F (Sx.d_move F (Or.inr rfl) rfl) (Sx.wanted_none rfl _) rfl (by decide) (fun A F => ?_)
    refine Sx.nil ?_
    refine hK6 _ _ ?_
    refine Sx.seq (fun K7 hK7 => ?_)
    have F := Sx.Fr.to F (kv' := [(0, .agg #[.int .u64 ((Wd.hi ss).toNat), .int .u64 ((Wd.lo ss).toNat), .int .u64 ((Wd.hi si).toNat), .int .u64 ((Wd.lo si).toNat)]), (1, .int .i64 n), (2, .int .u16 nn), (3, .pointer (some ⟨g1, 0, none⟩)), (6, .bool false), (14, .bool true), (15, .bool false), (40, .bool false), (42, .agg #[.int .u64 ((Wd.hi ss).toNat), .int .u64 ((Wd.lo ss).toNat), .int .u64 ((Wd.hi si).toNat), .int .u64 ((Wd.lo si).toNat)]), (43, .int .i64 n), (44, .tuple #[v1, .agg #[.int .u64 ((Wd.hi (Pc.its si n ss)).toNat), .int .u64 ((Wd.lo (Pc.its si n ss)).toNat), .int .u64 ((Wd.hi si).toNat), .int .u64 ((Wd.lo si).toNat)], .int .i64 0]), (41, .tuple #[v1, .agg #[.int .u64 ((Wd.hi (Pc.its si n ss)).toNat), .int .u64 ((Wd.lo (Pc.its si n ss)).toNat), .int .u64 ((Wd.hi si).toNat), .int .u64 ((Wd.lo si).toNat)], .int .i64 0]), (45, v1), (46, .agg #[.int .u64 ((Wd.hi (Pc.its si n ss)).toNat), .int .u64 ((Wd.lo (Pc.its si n ss)).toNat), .int .u64 ((Wd.hi si).toNat), .int .u64 ((Wd.lo si).toNat)]), (47, .int .i64 0), (8, .pointer (some ⟨g2, 0, none⟩)), (7, v1), (9, .int .i64 0)]) ⟨rfl, rfl, rfl, rfl, rfl, rfl, rfl, rfl, rfl, rfl, rfl, rfl, rfl, rfl, rfl, rfl, rfl, rfl, trivial⟩
    refine Sx.drawn F (by kernel_rfl) (by kernel_rfl) (by kernel_rfl) [some (.agg #[.int .u64 ((Wd.hi ss).toNat), .int .u64 ((Wd.lo ss).toNat), .int .u64 ((Wd.hi si).toNat), .int .u64 ((Wd.lo si).toNat)]), some (.int .u16 nn), some (.int .u16 m), some (.int .u64 ((BitVec.ofNat 64 m).toNat)), some (.agg #[.int .u64 ((Wd.hi (Wd.of (BitVec.ofNat 64 m))).toNat), .int .u64 ((Wd.lo (Wd.of (BitVec.ofNat 64 m))).toNat)]), some (.tuple #[.agg #[.int .u64 ((Wd.hi ((Pc.jump ⟨ss, si⟩ (Wd.of (BitVec.ofNat 64 m))).s)).toNat), .int .u64 ((Wd.lo ((Pc.jump ⟨ss, si⟩ (Wd.of (BitVec.ofNat 64 m))).s)).toNat), .int .u64 ((Wd.hi si).toNat), .int .u64 ((Wd.lo si).toNat)], .int .i64 0]), some (.tuple #[.agg #[.int .u64 ((Wd.hi ((Pc.jump ⟨ss, si⟩ (Wd.of (BitVec.ofNat 64 m))).s)).toNat), .int .u64 ((Wd.lo ((Pc.jump ⟨ss, si⟩ (Wd.of (BitVec.ofNat 64 m))).s)).toNat), .int .u64 ((Wd.hi si).toNat), .int .u64 ((Wd.lo si).toNat)], .int .i64 0]), some (.agg #[.int .u64 ((Wd.hi ((Pc.jump ⟨ss, si⟩ (Wd.of (BitVec.ofNat 64 m))).s)).toNat), .int .u64 ((Wd.lo ((Pc.jump ⟨ss, si⟩ (Wd.of (BitVec.ofNat 64 m))).s)).toNat), .int .u64 ((Wd.hi si).toNat), .int .u64 ((Wd.lo si).toNat)]), some (.int .i64 0), none, none, some (.int .i64 0)] (fun L A w => ∃ g3 : Nat, (L 9 = true → A.eval (.tmp 10) = .pointer (some ⟨g3, 0, none⟩)) ∧ Sx.Own w0 w [(true, g2, [.int .u64 ((Wd.hi (Pc.its si n ss)).toNat), .int .u64 ((Wd.lo (Pc.its si n ss)).toNat), .int .u64 ((Wd.hi si).toNat), .int .u64 ((Wd.lo si).toNat)]), (true, g1, [.int .u64 ((Wd.hi ss).toNat), .int .u64 ((Wd.lo ss).toNat), .int .u64 ((Wd.hi si).toNat), .int .u64 ((Wd.lo si).toNat)]), (L 9, g3, (cond (L 10) [.int .u64 ((Wd.hi ((Pc.jump ⟨ss, si⟩ (Wd.of (BitVec.ofNat 64 m))).s)).toNat), .int .u64 ((Wd.lo ((Pc.jump ⟨ss, si⟩ (Wd.of (BitVec.ofNat 64 m))).s)).toNat), .int .u64 ((Wd.hi si).toNat), .int .u64 ((Wd.lo si).toNat)] [.int .u64 ((Wd.hi 0#128).toNat), .int .u64 ((Wd.lo 0#128).toNat), .int .u64 ((Wd.hi 0#128).toNat), .int .u64 ((Wd.lo 0#128).toNat)]))] [⟨true, v1, 22, 1, n, (u64s (Pc.words si n ss))⟩]) ⟨0, (fun h => by cases h), H.drew.pad [(false, 0, [.int .u64 ((Wd.hi 0#128).toNat), .int .u64 ((Wd.lo 0#128).toNat), .int .u64 ((Wd.hi 0#128).toNat), .int .u64 ((Wd.lo 0#128).toNat)])] rfl [] rfl⟩ ?_ ?_
    · refine ⟨?_, ?_, ?_, ?_, ?_, ?_, ?_, ?_, ?_, ?_, ?_, ?_, trivial⟩
      · show Sx.StepAt _ _ _ _ _ _ _ 0
        intro L A w up hun hd F ⟨g3, p9, H⟩
        have f10 : L 10 = false := up 10 0 rfl hun
        rw [f10] at H
        have F := Sx.Fr.to F (kv' := [(3, .pointer (some ⟨g1, 0, none⟩))]) ⟨rfl, trivial⟩
        refine Sx.step_on rfl (Sx.d_load (i := 1) (xs := [.int .u64 ((Wd.hi ss).toNat), .int .u64 ((Wd.lo ss).toNat), .int .u64 ((Wd.hi si).toNat), .int .u64 ((Wd.lo si).toNat)]) rw_57 F H rfl rfl rfl rfl rfl) ?_
        rintro xv w' ⟨hx, rfl⟩
        exact ⟨(fun cv hc => hx.trans (Option.some.inj (Option.some.inj hc))), ⟨g3, (fun h => (Sx.put_ne rfl _).trans (p9 h)), (by show Sx.Own _ _ _ _; rw [show Inv.add L 0 10 = false from f10]; exact H)⟩⟩
      · show Sx.StepAt _ _ _ _ _ _ _ 1
        intro L A w up hun hd F ⟨g3, p9, H⟩
        have f10 : L 10 = false := up 10 1 rfl hun
        rw [f10] at H
        have F := Sx.Fr.to F (kv' := [(2, .int .u16 nn)]) ⟨rfl, trivial⟩
        refine Sx.step_on rfl (Sx.d_move F (Or.inl rfl) rfl) ?_
        rintro xv w' ⟨hx, rfl⟩
        exact ⟨(fun cv hc => hx.trans (Option.some.inj (Option.some.inj hc))), ⟨g3, (fun h => (Sx.put_ne rfl _).trans (p9 h)), (by show Sx.Own _ _ _ _; rw [show Inv.add L 1 10 = false from f10]; exact H)⟩⟩
      · show Sx.StepAt _ _ _ _ _ _ _ 2
        intro L A w up hun hd F ⟨g3, p9, H⟩
        have f10 : L 10 = false := up 10 2 rfl hun
        rw [f10] at H
        have F := Sx.Fr.to F (kv' := [(50, .int .u16 nn)]) ⟨rfl, trivial⟩
        refine Sx.step_on rfl (Sx.d_bin (v := .int .u16 m) F rfl rfl rfl (Sx.i_rem hm (by decide))) ?_
        rintro xv w' ⟨hx, rfl⟩
        exact ⟨(fun cv hc => hx.trans (Option.some.inj (Option.some.inj hc))), ⟨g3, (fun h => (Sx.put_ne rfl _).trans (p9 h)), (by show Sx.Own _ _ _ _; rw [show Inv.add L 2 10 = false from f10]; exact H)⟩⟩
      · show Sx.StepAt _ _ _ _ _ _ _ 3
        intro L A w up hun hd F ⟨g3, p9, H⟩
        have f10 : L 10 = false := up 10 3 rfl hun
        rw [f10] at H
        have F := Sx.Fr.to F (kv' := [(51, .int .u16 m)]) ⟨rfl, trivial⟩
        refine Sx.step_on rfl (Sx.d_conv (v := .int .u64 ((BitVec.ofNat 64 m).toNat)) F rfl rfl (Sx.c_u16_u64 m (by omega))) ?_
        rintro xv w' ⟨hx, rfl⟩
        exact ⟨(fun cv hc => hx.trans (Option.some.inj (Option.some.inj hc))), ⟨g3, (fun h => (Sx.put_ne rfl _).trans (p9 h)), (by show Sx.Own _ _ _ _; rw [show Inv.add L 3 10 = false from f10]; exact H)⟩⟩
      · show Sx.StepAt _ _ _ _ _ _ _ 4
        intro L A w up hun hd F ⟨g3, p9, H⟩
        have f10 : L 10 = false := up 10 4 rfl hun
        rw [f10] at H
        have F := Sx.Fr.to F (kv' := [(52, .int .u64 ((BitVec.ofNat 64 m).toNat))]) ⟨rfl, trivial⟩
        refine Sx.step_on rfl (Sx.d_call (vs := [.int .u64 ((BitVec.ofNat 64 m).toNat)]) (v := .agg #[.int .u64 ((Wd.hi (Wd.of (BitVec.ofNat 64 m))).toNat), .int .u64 ((Wd.lo (Wd.of (BitVec.ofNat 64 m))).toNat)]) if_29 F H rfl rfl (wofV_c (BitVec.ofNat 64 m) _)) ?_
        rintro xv w' ⟨hx, H⟩
        exact ⟨(fun cv hc => hx.trans (Option.some.inj (Option.some.inj hc))), ⟨g3, (fun h => (Sx.put_ne rfl _).trans (p9 h)), (by show Sx.Own _ _ _ _; rw [show Inv.add L 4 10 = false from f10]; exact H)⟩⟩
      · show Sx.StepAt _ _ _ _ _ _ _ 5
        intro L A w up hun hd F ⟨g3, p9, H⟩
        have f10 : L 10 = false := up 10 5 rfl hun
        rw [f10] at H
        have F := Sx.Fr.to F (kv' := [(49, .agg #[.int .u64 ((Wd.hi ss).toNat), .int .u64 ((Wd.lo ss).toNat), .int .u64 ((Wd.hi si).toNat), .int .u64 ((Wd.lo si).toNat)]), (53, .agg #[.int .u64 ((Wd.hi (Wd.of (BitVec.ofNat 64 m))).toNat), .int .u64 ((Wd.lo (Wd.of (BitVec.ofNat 64 m))).toNat)])]) ⟨rfl, rfl, trivial⟩
        refine Sx.step_on rfl (Sx.d_call (vs := [.agg #[.int .u64 ((Wd.hi ss).toNat), .int .u64 ((Wd.lo ss).toNat), .int .u64 ((Wd.hi si).toNat), .int .u64 ((Wd.lo si).toNat)], .agg #[.int .u64 ((Wd.hi (Wd.of (BitVec.ofNat 64 m))).toNat), .int .u64 ((Wd.lo (Wd.of (BitVec.ofNat 64 m))).toNat)]]) (v := .tuple #[.agg #[.int .u64 ((Wd.hi ((Pc.jump ⟨ss, si⟩ (Wd.of (BitVec.ofNat 64 m))).s)).toNat), .int .u64 ((Wd.lo ((Pc.jump ⟨ss, si⟩ (Wd.of (BitVec.ofNat 64 m))).s)).toNat), .int .u64 ((Wd.hi si).toNat), .int .u64 ((Wd.lo si).toNat)], .int .i64 0]) if_40 F H rfl rfl (pjump_ok ss si (Wd.of (BitVec.ofNat 64 m)) (ho) _)) ?_
        rintro xv w' ⟨hx, H⟩
        exact ⟨(fun cv hc => hx.trans (Option.some.inj (Option.some.inj hc))), ⟨g3, (fun h => (Sx.put_ne rfl _).trans (p9 h)), (by show Sx.Own _ _ _ _; rw [show Inv.add L 5 10 = false from f10]; exact H)⟩⟩
      · show Sx.StepAt _ _ _ _ _ _ _ 6
        intro L A w up hun hd F ⟨g3, p9, H⟩
        have f10 : L 10 = false := up 10 6 rfl hun
        rw [f10] at H
        have F := Sx.Fr.to F (kv' := [(54, .tuple #[.agg #[.int .u64 ((Wd.hi ((Pc.jump ⟨ss, si⟩ (Wd.of (BitVec.ofNat 64 m))).s)).toNat), .int .u64 ((Wd.lo ((Pc.jump ⟨ss, si⟩ (Wd.of (BitVec.ofNat 64 m))).s)).toNat), .int .u64 ((Wd.hi si).toNat), .int .u64 ((Wd.lo si).toNat)], .int .i64 0])]) ⟨rfl, trivial⟩
        refine Sx.step_on rfl (Sx.d_move F (Or.inl rfl) rfl) ?_
        rintro xv w' ⟨hx, rfl⟩
        exact ⟨(fun cv hc => hx.trans (Option.some.inj (Option.some.inj hc))), ⟨g3, (fun h => (Sx.put_ne rfl _).trans (p9 h)), (by show Sx.Own _ _ _ _; rw [show Inv.add L 6 10 = false from f10]; exact H)⟩⟩
      · show Sx.StepAt _ _ _ _ _ _ _ 7
        intro L A w up hun hd F ⟨g3, p9, H⟩
        have f10 : L 10 = false := up 10 7 rfl hun
        rw [f10] at H
        have F := Sx.Fr.to F (kv' := [(48, .tuple #[.agg #[.int .u64 ((Wd.hi ((Pc.jump ⟨ss, si⟩ (Wd.of (BitVec.ofNat 64 m))).s)).toNat), .int .u64 ((Wd.lo ((Pc.jump ⟨ss, si⟩ (Wd.of (BitVec.ofNat 64 m))).s)).toNat), .int .u64 ((Wd.hi si).toNat), .int .u64 ((Wd.lo si).toNat)], .int .i64 0])]) ⟨rfl, trivial⟩
        refine Sx.step_on rfl (Sx.d_extract (v := .agg #[.int .u64 ((Wd.hi ((Pc.jump ⟨ss, si⟩ (Wd.of (BitVec.ofNat 64 m))).s)).toNat), .int .u64 ((Wd.lo ((Pc.jump ⟨ss, si⟩ (Wd.of (BitVec.ofNat 64 m))).s)).toNat), .int .u64 ((Wd.hi si).toNat), .int .u64 ((Wd.lo si).toNat)]) F rfl rfl rfl) ?_
        rintro xv w' ⟨hx, rfl⟩
        exact ⟨(fun cv hc => hx.trans (Option.some.inj (Option.some.inj hc))), ⟨g3, (fun h => (Sx.put_ne rfl _).trans (p9 h)), (by show Sx.Own _ _ _ _; rw [show Inv.add L 7 10 = false from f10]; exact H)⟩⟩
      · show Sx.StepAt _ _ _ _ _ _ _ 8
        intro L A w up hun hd F ⟨g3, p9, H⟩
        have F := Sx.Fr.to F (kv' := [(48, .tuple #[.agg #[.int .u64 ((Wd.hi ((Pc.jump ⟨ss, si⟩ (Wd.of (BitVec.ofNat 64 m))).s)).toNat), .int .u64 ((Wd.lo ((Pc.jump ⟨ss, si⟩ (Wd.of (BitVec.ofNat 64 m))).s)).toNat), .int .u64 ((Wd.hi si).toNat), .int .u64 ((Wd.lo si).toNat)], .int .i64 0])]) ⟨rfl, trivial⟩
        refine Sx.step_on rfl (Sx.d_extract (v := .int .i64 0) F rfl rfl rfl) ?_
        rintro xv w' ⟨hx, rfl⟩
        exact ⟨(fun cv hc => hx.trans (Option.some.inj (Option.some.inj hc))), ⟨g3, (fun h => (Sx.put_ne rfl _).trans (p9 h)), H⟩⟩
      · show Sx.StepAt _ _ _ _ _ _ _ 9
        intro L A w up hun hd F ⟨g3, p9, H⟩
        have f9 : L 9 = false := hun
        have f10 : L 10 = false := up 10 9 rfl hun
        rw [f9, f10] at H
        have F := Sx.Fr.to F (kv' := []) trivial
        refine Sx.step_on rfl (Sx.d_alloc_at H rfl 2 [.int .u64 ((Wd.hi 0#128).toNat), .int .u64 ((Wd.lo 0#128).toNat), .int .u64 ((Wd.hi 0#128).toNat), .int .u64 ((Wd.lo 0#128).toNat)] zero_57) ?_
        rintro xv w' ⟨g', hx, H⟩
        exact ⟨(fun cv hc => by have h := Option.some.inj hc; cases h), ⟨g', (fun _ => (Sx.put_same F (by decide) _).trans hx), (by show Sx.Own _ _ _ _; rw [show Inv.add L 9 10 = false from f10]; exact H)⟩⟩
      · show Sx.StepAt _ _ _ _ _ _ _ 10
        intro L A w up hun hd F ⟨g3, p9, H⟩
        have t9 : L 9 = true := hd 9 rfl
        have f10 : L 10 = false := hun
        rw [t9, f10] at H
        have F := Sx.Fr.to F (kv' := [(55, .agg #[.int .u64 ((Wd.hi ((Pc.jump ⟨ss, si⟩ (Wd.of (BitVec.ofNat 64 m))).s)).toNat), .int .u64 ((Wd.lo ((Pc.jump ⟨ss, si⟩ (Wd.of (BitVec.ofNat 64 m))).s)).toNat), .int .u64 ((Wd.hi si).toNat), .int .u64 ((Wd.lo si).toNat)])]) ⟨rfl, trivial⟩
        have F := Sx.Fr.add F (p9 t9)
        refine Sx.step_on rfl (Sx.d_store (i := 2) (xs := [.int .u64 ((Wd.hi ((Pc.jump ⟨ss, si⟩ (Wd.of (BitVec.ofNat 64 m))).s)).toNat), .int .u64 ((Wd.lo ((Pc.jump ⟨ss, si⟩ (Wd.of (BitVec.ofNat 64 m))).s)).toNat), .int .u64 ((Wd.hi si).toNat), .int .u64 ((Wd.lo si).toNat)]) (us := [.int .u64 ((Wd.hi ((Pc.jump ⟨ss, si⟩ (Wd.of (BitVec.ofNat 64 m))).s)).toNat), .int .u64 ((Wd.lo ((Pc.jump ⟨ss, si⟩ (Wd.of (BitVec.ofNat 64 m))).s)).toNat), .int .u64 ((Wd.hi si).toNat), .int .u64 ((Wd.lo si).toNat)]) sz_57 F H rfl rfl rfl rfl rfl rfl rfl (Nat.le_of_ble_eq_true rfl) rfl) ?_
        intro xv w' H
        exact ⟨(fun cv hc => by have h := Option.some.inj hc; cases h), ⟨g3, p9, (by show Sx.Own _ _ _ _; rw [show Inv.add L 10 9 = true from t9]; exact H)⟩⟩
      · show Sx.StepAt _ _ _ _ _ _ _ 11
        intro L A w up hun hd F ⟨g3, p9, H⟩
        have t9 : L 9 = true := hd 9 rfl
        have t10 : L 10 = true := hd 10 rfl
        rw [t9, t10] at H
        have F := Sx.Fr.to F (kv' := [(56, .int .i64 0)]) ⟨rfl, trivial⟩
        have F := Sx.Fr.add F (p9 t9)
        refine Sx.step_on rfl (Sx.d_move F (Or.inr rfl) rfl) ?_
        rintro xv w' ⟨hx, rfl⟩
        exact ⟨(fun cv hc => hx.trans (Option.some.inj (Option.some.inj hc))), ⟨g3, (fun h => (Sx.put_ne rfl _).trans (p9 h)), (by show Sx.Own _ _ _ _; rw [show Inv.add L 11 9 = true from t9, show Inv.add L 11 10 = true from t10]; exact H)⟩⟩
    · intro L A w hL F ⟨g3, p9, H⟩
      have t9 : L 9 = true := hL 9 rfl
      have t10 : L 10 = true := hL 10 rfl
      rw [t9, t10] at H
      have F := Sx.Fr.add F (p9 t9)
      have F := Sx.Fr.to F (kv' := [(0, .agg #[.int .u64 ((Wd.hi ss).toNat), .int .u64 ((Wd.lo ss).toNat), .int .u64 ((Wd.hi si).toNat), .int .u64 ((Wd.lo si).toNat)]), (1, .int .i64 n), (2, .int .u16 nn), (3, .pointer (some ⟨g1, 0, none⟩)), (6, .bool false), (14, .bool true), (15, .bool false), (40, .bool false), (42, .agg #[.int .u64 ((Wd.hi ss).toNat), .int .u64 ((Wd.lo ss).toNat), .int .u64 ((Wd.hi si).toNat), .int .u64 ((Wd.lo si).toNat)]), (43, .int .i64 n), (44, .tuple #[v1, .agg #[.int .u64 ((Wd.hi (Pc.its si n ss)).toNat), .int .u64 ((Wd.lo (Pc.its si n ss)).toNat), .int .u64 ((Wd.hi si).toNat), .int .u64 ((Wd.lo si).toNat)], .int .i64 0]), (41, .tuple #[v1, .agg #[.int .u64 ((Wd.hi (Pc.its si n ss)).toNat), .int .u64 ((Wd.lo (Pc.its si n ss)).toNat), .int .u64 ((Wd.hi si).toNat), .int .u64 ((Wd.lo si).toNat)], .int .i64 0]), (45, v1), (46, .agg #[.int .u64 ((Wd.hi (Pc.its si n ss)).toNat), .int .u64 ((Wd.lo (Pc.its si n ss)).toNat), .int .u64 ((Wd.hi si).toNat), .int .u64 ((Wd.lo si).toNat)]), (47, .int .i64 0), (8, .pointer (some ⟨g2, 0, none⟩)), (7, v1), (9, .int .i64 0), (10, .pointer (some ⟨g3, 0, none⟩)), (11, .int .i64 0)]) ⟨rfl, rfl, rfl, rfl, rfl, rfl, rfl, rfl, rfl, rfl, rfl, rfl, rfl, rfl, rfl, rfl, rfl, rfl, rfl, rfl, trivial⟩
      refine hK7 _ _ ?_
      refine Sx.seq (fun K8 hK8 => ?_)
      refine wp_block ?_
      refine Sx.seq (fun K9 hK9 => ?_)
      refine Sx.plain ?_
      refine Sx.sv F (Sx.d_load (i := 1) (xs := [.int .u64 ((Wd.hi ss).toNat), .int .u64 ((Wd.lo ss).toNat), .int .u64 ((Wd.hi si).toNat), .int .u64 ((Wd.lo si).toNat)]) rw_57 F H rfl rfl rfl rfl rfl) (Sx.wanted_none rfl _) rfl (by decide) (fun A F => ?_)
      refine Sx.sw F (Sx.d_call (vs := [.agg #[.int .u64 ((Wd.hi ss).toNat), .int .u64 ((Wd.lo ss).toNat), .int .u64 ((Wd.hi si).toNat), .int .u64 ((Wd.lo si).toNat)]]) (v := .bool true) if_38 F H rfl rfl (Calls.val (pright_c ss si _) rfl (congrArg Value.bool (ho)))) (Sx.wanted_none rfl _) rfl (by decide) (fun A w F H => ?_)
      refine Sx.sv F (Sx.d_un (v := .bool false) F rfl rfl rfl) (Sx.wanted_none rfl _) rfl (by decide) (fun A F => ?_)
      refine Sx.sv F (Sx.d_move F (Or.inr rfl) rfl) (Sx.wanted_none rfl _) rfl (by decide) (fun A F => ?_)
      refine Sx.nil ?_
      refine hK9 _ _ ?_
      refine Sx.condF F rfl ?_
      refine Sx.seq (fun K10 hK10 => ?_)
      have F := Sx.Fr.to F (kv' := [(0, .agg #[.int .u64 ((Wd.hi ss).toNat), .int .u64 ((Wd.lo ss).toNat), .int .u64 ((Wd.hi si).toNat), .int .u64 ((Wd.lo si).toNat)]), (1, .int .i64 n), (2, .int .u16 nn), (3, .pointer (some ⟨g1, 0, none⟩)), (6, .bool false), (14, .bool true), (15, .bool false), (40, .bool false), (42, .agg #[.int .u64 ((Wd.hi ss).toNat), .int .u64 ((Wd.lo ss).toNat), .int .u64 ((Wd.hi si).toNat), .int .u64 ((Wd.lo si).toNat)]), (43, .int .i64 n), (44, .tuple #[v1, .agg #[.int .u64 ((Wd.hi (Pc.its si n ss)).toNat), .int .u64 ((Wd.lo (Pc.its si n ss)).toNat), .int .u64 ((Wd.hi si).toNat), .int .u64 ((Wd.lo si).toNat)], .int .i64 0]), (41, .tuple #[v1, .agg #[.int .u64 ((Wd.hi (Pc.its si n ss)).toNat), .int .u64 ((Wd.lo (Pc.its si n ss)).toNat), .int .u64 ((Wd.hi si).toNat), .int .u64 ((Wd.lo si).toNat)], .int .i64 0]), (45, v1), (46, .agg #[.int .u64 ((Wd.hi (Pc.its si n ss)).toNat), .int .u64 ((Wd.lo (Pc.its si n ss)).toNat), .int .u64 ((Wd.hi si).toNat), .int .u64 ((Wd.lo si).toNat)]), (47, .int .i64 0), (8, .pointer (some ⟨g2, 0, none⟩)), (7, v1), (9, .int .i64 0), (10, .pointer (some ⟨g3, 0, none⟩)), (11, .int .i64 0), (58, .agg #[.int .u64 ((Wd.hi ss).toNat), .int .u64 ((Wd.lo ss).toNat), .int .u64 ((Wd.hi si).toNat), .int .u64 ((Wd.lo si).toNat)]), (59, .bool true), (60, .bool false), (57, .bool false)]) ⟨rfl, rfl, rfl, rfl, rfl, rfl, rfl, rfl, rfl, rfl, rfl, rfl, rfl, rfl, rfl, rfl, rfl, rfl, rfl, rfl, rfl, rfl, rfl, rfl, trivial⟩
      refine Sx.drawn F (by kernel_rfl) (by kernel_rfl) (by kernel_rfl) [some (.int .i64 0), some (.bool false), some (.bool false), some (.agg #[.int .u64 ((Wd.hi ((Pc.jump ⟨ss, si⟩ (Wd.of (BitVec.ofNat 64 m))).s)).toNat), .int .u64 ((Wd.lo ((Pc.jump ⟨ss, si⟩ (Wd.of (BitVec.ofNat 64 m))).s)).toNat), .int .u64 ((Wd.hi si).toNat), .int .u64 ((Wd.lo si).toNat)]), some (.agg #[.int .u64 ((Wd.hi ((Pc.jump ⟨ss, si⟩ (Wd.of (BitVec.ofNat 64 m))).s)).toNat), .int .u64 ((Wd.lo ((Pc.jump ⟨ss, si⟩ (Wd.of (BitVec.ofNat 64 m))).s)).toNat), .int .u64 ((Wd.hi si).toNat), .int .u64 ((Wd.lo si).toNat)]), some (.agg #[.int .u64 ((Wd.hi ss).toNat), .int .u64 ((Wd.lo ss).toNat), .int .u64 ((Wd.hi si).toNat), .int .u64 ((Wd.lo si).toNat)]), some (.agg #[.int .u64 ((Wd.hi ss).toNat), .int .u64 ((Wd.lo ss).toNat), .int .u64 ((Wd.hi si).toNat), .int .u64 ((Wd.lo si).toNat)]), some (.int .u16 nn), some (.int .u16 m), some (.int .i64 m), some (.agg #[.int .u64 ((Wd.hi (Pc.its si m ss)).toNat), .int .u64 ((Wd.lo (Pc.its si m ss)).toNat), .int .u64 ((Wd.hi si).toNat), .int .u64 ((Wd.lo si).toNat)]), some (.bool false), some (.bool false), some (.bool false)] (fun L A w => Sx.Own w0 w [(true, g2, [.int .u64 ((Wd.hi (Pc.its si n ss)).toNat), .int .u64 ((Wd.lo (Pc.its si n ss)).toNat), .int .u64 ((Wd.hi si).toNat), .int .u64 ((Wd.lo si).toNat)]), (true, g1, [.int .u64 ((Wd.hi ss).toNat), .int .u64 ((Wd.lo ss).toNat), .int .u64 ((Wd.hi si).toNat), .int .u64 ((Wd.lo si).toNat)]), (true, g3, [.int .u64 ((Wd.hi ((Pc.jump ⟨ss, si⟩ (Wd.of (BitVec.ofNat 64 m))).s)).toNat), .int .u64 ((Wd.lo ((Pc.jump ⟨ss, si⟩ (Wd.of (BitVec.ofNat 64 m))).s)).toNat), .int .u64 ((Wd.hi si).toNat), .int .u64 ((Wd.lo si).toNat)])] [⟨true, v1, 22, 1, n, (u64s (Pc.words si n ss))⟩]) H.drew ?_ ?_
      · refine ⟨?_, ?_, ?_, ?_, ?_, ?_, ?_, ?_, ?_, ?_, ?_, ?_, ?_, ?_, trivial⟩
        · show Sx.StepAt _ _ _ _ _ _ _ 0
          intro L A w up hun hd F H
          have F := Sx.Fr.to F (kv' := [(11, .int .i64 0)]) ⟨rfl, trivial⟩
          refine Sx.step_on rfl (Sx.d_move F (Or.inl rfl) rfl) ?_
          rintro xv w' ⟨hx, rfl⟩
          exact ⟨(fun cv hc => hx.trans (Option.some.inj (Option.some.inj hc))), H⟩
        · show Sx.StepAt _ _ _ _ _ _ _ 1
          intro L A w up hun hd F H
          have F := Sx.Fr.to F (kv' := [(84, .int .i64 0)]) ⟨rfl, trivial⟩
          refine Sx.step_on rfl (Sx.d_bin (v := .bool false) F rfl rfl rfl (Sx.i_ne (by decide))) ?_
          rintro xv w' ⟨hx, rfl⟩
          exact ⟨(fun cv hc => hx.trans (Option.some.inj (Option.some.inj hc))), H⟩
        · show Sx.StepAt _ _ _ _ _ _ _ 2
          intro L A w up hun hd F H
          have F := Sx.Fr.to F (kv' := [(85, .bool false)]) ⟨rfl, trivial⟩
          refine Sx.step_on rfl (Sx.d_move F (Or.inl rfl) rfl) ?_
          rintro xv w' ⟨hx, rfl⟩
          exact ⟨(fun cv hc => hx.trans (Option.some.inj (Option.some.inj hc))), H⟩
        · show Sx.StepAt _ _ _ _ _ _ _ 3
          intro L A w up hun hd F H
          have F := Sx.Fr.to F (kv' := [(10, .pointer (some ⟨g3, 0, none⟩)), (86, .bool false)]) ⟨rfl, rfl, trivial⟩
          refine Sx.step_ong rfl (Sx.guard_known (d := 86) (b := false) F rfl rfl) rfl (Sx.d_load (i := 2) (xs := [.int .u64 ((Wd.hi ((Pc.jump ⟨ss, si⟩ (Wd.of (BitVec.ofNat 64 m))).s)).toNat), .int .u64 ((Wd.lo ((Pc.jump ⟨ss, si⟩ (Wd.of (BitVec.ofNat 64 m))).s)).toNat), .int .u64 ((Wd.hi si).toNat), .int .u64 ((Wd.lo si).toNat)]) rw_57 F H rfl rfl rfl rfl rfl) ?_
          rintro xv w' ⟨hx, rfl⟩
          exact ⟨(fun cv hc => hx.trans (Option.some.inj (Option.some.inj hc))), H⟩
        · show Sx.StepAt _ _ _ _ _ _ _ 4
          intro L A w up hun hd F H
          have F := Sx.Fr.to F (kv' := [(87, .agg #[.int .u64 ((Wd.hi ((Pc.jump ⟨ss, si⟩ (Wd.of (BitVec.ofNat 64 m))).s)).toNat), .int .u64 ((Wd.lo ((Pc.jump ⟨ss, si⟩ (Wd.of (BitVec.ofNat 64 m))).s)).toNat), .int .u64 ((Wd.hi si).toNat), .int .u64 ((Wd.lo si).toNat)]), (86, .bool false)]) ⟨rfl, rfl, trivial⟩
          refine Sx.step_ong rfl (Sx.guard_known (d := 86) (b := false) F rfl rfl) rfl (Sx.d_call (vs := [.agg #[.int .u64 ((Wd.hi ((Pc.jump ⟨ss, si⟩ (Wd.of (BitVec.ofNat 64 m))).s)).toNat), .int .u64 ((Wd.lo ((Pc.jump ⟨ss, si⟩ (Wd.of (BitVec.ofNat 64 m))).s)).toNat), .int .u64 ((Wd.hi si).toNat), .int .u64 ((Wd.lo si).toNat)]]) (v := .agg #[.int .u64 ((Wd.hi ((Pc.jump ⟨ss, si⟩ (Wd.of (BitVec.ofNat 64 m))).s)).toNat), .int .u64 ((Wd.lo ((Pc.jump ⟨ss, si⟩ (Wd.of (BitVec.ofNat 64 m))).s)).toNat), .int .u64 ((Wd.hi si).toNat), .int .u64 ((Wd.lo si).toNat)]) if_35 F H rfl rfl (own10_c ((Pc.jump ⟨ss, si⟩ (Wd.of (BitVec.ofNat 64 m))).s) si _)) ?_
          rintro xv w' ⟨hx, H⟩
          exact ⟨(fun cv hc => hx.trans (Option.some.inj (Option.some.inj hc))), H⟩
        · show Sx.StepAt _ _ _ _ _ _ _ 5
          intro L A w up hun hd F H
          have F := Sx.Fr.to F (kv' := [(3, .pointer (some ⟨g1, 0, none⟩)), (86, .bool false)]) ⟨rfl, rfl, trivial⟩
          refine Sx.step_ong rfl (Sx.guard_known (d := 86) (b := false) F rfl rfl) rfl (Sx.d_load (i := 1) (xs := [.int .u64 ((Wd.hi ss).toNat), .int .u64 ((Wd.lo ss).toNat), .int .u64 ((Wd.hi si).toNat), .int .u64 ((Wd.lo si).toNat)]) rw_57 F H rfl rfl rfl rfl rfl) ?_
          rintro xv w' ⟨hx, rfl⟩
          exact ⟨(fun cv hc => hx.trans (Option.some.inj (Option.some.inj hc))), H⟩
        · show Sx.StepAt _ _ _ _ _ _ _ 6
          intro L A w up hun hd F H
          have F := Sx.Fr.to F (kv' := [(89, .agg #[.int .u64 ((Wd.hi ss).toNat), .int .u64 ((Wd.lo ss).toNat), .int .u64 ((Wd.hi si).toNat), .int .u64 ((Wd.lo si).toNat)]), (86, .bool false)]) ⟨rfl, rfl, trivial⟩
          refine Sx.step_ong rfl (Sx.guard_known (d := 86) (b := false) F rfl rfl) rfl (Sx.d_call (vs := [.agg #[.int .u64 ((Wd.hi ss).toNat), .int .u64 ((Wd.lo ss).toNat), .int .u64 ((Wd.hi si).toNat), .int .u64 ((Wd.lo si).toNat)]]) (v := .agg #[.int .u64 ((Wd.hi ss).toNat), .int .u64 ((Wd.lo ss).toNat), .int .u64 ((Wd.hi si).toNat), .int .u64 ((Wd.lo si).toNat)]) if_35 F H rfl rfl (own10_c ss si _)) ?_
          rintro xv w' ⟨hx, H⟩
          exact ⟨(fun cv hc => hx.trans (Option.some.inj (Option.some.inj hc))), H⟩
        · show Sx.StepAt _ _ _ _ _ _ _ 7
          intro L A w up hun hd F H
          have F := Sx.Fr.to F (kv' := [(2, .int .u16 nn), (86, .bool false)]) ⟨rfl, rfl, trivial⟩
          refine Sx.step_ong rfl (Sx.guard_known (d := 86) (b := false) F rfl rfl) rfl (Sx.d_move F (Or.inl rfl) rfl) ?_
          rintro xv w' ⟨hx, rfl⟩
          exact ⟨(fun cv hc => hx.trans (Option.some.inj (Option.some.inj hc))), H⟩
        · show Sx.StepAt _ _ _ _ _ _ _ 8
          intro L A w up hun hd F H
          have F := Sx.Fr.to F (kv' := [(91, .int .u16 nn), (86, .bool false)]) ⟨rfl, rfl, trivial⟩
          refine Sx.step_ong rfl (Sx.guard_known (d := 86) (b := false) F rfl rfl) rfl (Sx.d_bin (v := .int .u16 m) F rfl rfl rfl (Sx.i_rem hm (by decide))) ?_
          rintro xv w' ⟨hx, rfl⟩
          exact ⟨(fun cv hc => hx.trans (Option.some.inj (Option.some.inj hc))), H⟩
        · show Sx.StepAt _ _ _ _ _ _ _ 9
          intro L A w up hun hd F H
          have F := Sx.Fr.to F (kv' := [(92, .int .u16 m), (86, .bool false)]) ⟨rfl, rfl, trivial⟩
          refine Sx.step_ong rfl (Sx.guard_known (d := 86) (b := false) F rfl rfl) rfl (Sx.d_conv (v := .int .i64 m) F rfl rfl (Sx.c_u16_i64 m (by omega))) ?_
          rintro xv w' ⟨hx, rfl⟩
          exact ⟨(fun cv hc => hx.trans (Option.some.inj (Option.some.inj hc))), H⟩
        · show Sx.StepAt _ _ _ _ _ _ _ 10
          intro L A w up hun hd F H
          have F := Sx.Fr.to F (kv' := [(90, .agg #[.int .u64 ((Wd.hi ss).toNat), .int .u64 ((Wd.lo ss).toNat), .int .u64 ((Wd.hi si).toNat), .int .u64 ((Wd.lo si).toNat)]), (93, .int .i64 m), (86, .bool false)]) ⟨rfl, rfl, rfl, trivial⟩
          refine Sx.step_ong rfl (Sx.guard_known (d := 86) (b := false) F rfl rfl) rfl (Sx.d_call (vs := [.agg #[.int .u64 ((Wd.hi ss).toNat), .int .u64 ((Wd.lo ss).toNat), .int .u64 ((Wd.hi si).toNat), .int .u64 ((Wd.lo si).toNat)], .int .i64 m]) (v := .agg #[.int .u64 ((Wd.hi (Pc.its si m ss)).toNat), .int .u64 ((Wd.lo (Pc.its si m ss)).toNat), .int .u64 ((Wd.hi si).toNat), .int .u64 ((Wd.lo si).toNat)]) if_41 F H rfl rfl (rjump10_c ss si m (by omega) _)) ?_
          rintro xv w' ⟨hx, H⟩
          exact ⟨(fun cv hc => hx.trans (Option.some.inj (Option.some.inj hc))), H⟩
        · show Sx.StepAt _ _ _ _ _ _ _ 11
          intro L A w up hun hd F H
          have F := Sx.Fr.to F (kv' := [(88, .agg #[.int .u64 ((Wd.hi ((Pc.jump ⟨ss, si⟩ (Wd.of (BitVec.ofNat 64 m))).s)).toNat), .int .u64 ((Wd.lo ((Pc.jump ⟨ss, si⟩ (Wd.of (BitVec.ofNat 64 m))).s)).toNat), .int .u64 ((Wd.hi si).toNat), .int .u64 ((Wd.lo si).toNat)]), (94, .agg #[.int .u64 ((Wd.hi (Pc.its si m ss)).toNat), .int .u64 ((Wd.lo (Pc.its si m ss)).toNat), .int .u64 ((Wd.hi si).toNat), .int .u64 ((Wd.lo si).toNat)]), (86, .bool false)]) ⟨rfl, rfl, rfl, trivial⟩
          refine Sx.step_ong rfl (Sx.guard_known (d := 86) (b := false) F rfl rfl) rfl (Sx.d_bin (v := .bool false) F rfl rfl rfl (Sx.i_neQ (by rw [show Sx.eqbM ((Pc.jump ⟨ss, si⟩ (Wd.of (BitVec.ofNat 64 m))).s) si (Pc.its si m ss) si = true from Sx.eqbM_true (Pc.jump_few ss si m (by omega)) rfl]; rfl))) ?_
          rintro xv w' ⟨hx, rfl⟩
          exact ⟨(fun cv hc => hx.trans (Option.some.inj (Option.some.inj hc))), H⟩
        · show Sx.StepAt _ _ _ _ _ _ _ 12
          intro L A w up hun hd F H
          have F := Sx.Fr.to F (kv' := [(86, .bool false), (95, .bool false)]) ⟨rfl, rfl, trivial⟩
          refine Sx.step_on rfl (Sx.d_pickF (v := .bool false) F rfl rfl rfl) ?_
          rintro xv w' ⟨hx, rfl⟩
          exact ⟨(fun cv hc => hx.trans (Option.some.inj (Option.some.inj hc))), H⟩
        · show Sx.StepAt _ _ _ _ _ _ _ 13
          intro L A w up hun hd F H
          have F := Sx.Fr.to F (kv' := [(96, .bool false)]) ⟨rfl, trivial⟩
          refine Sx.step_on rfl (Sx.d_move F (Or.inr rfl) rfl) ?_
          rintro xv w' ⟨hx, rfl⟩
          exact ⟨(fun cv hc => hx.trans (Option.some.inj (Option.some.inj hc))), H⟩
      · intro L A w hL F H
        have F := Sx.Fr.to F (kv' := [(0, .agg #[.int .u64 ((Wd.hi ss).toNat), .int .u64 ((Wd.lo ss).toNat), .int .u64 ((Wd.hi si).toNat), .int .u64 ((Wd.lo si).toNat)]), (1, .int .i64 n), (2, .int .u16 nn), (3, .pointer (some ⟨g1, 0, none⟩)), (6, .bool false), (14, .bool true), (15, .bool false), (40, .bool false), (42, .agg #[.int .u64 ((Wd.hi ss).toNat), .int .u64 ((Wd.lo ss).toNat), .int .u64 ((Wd.hi si).toNat), .int .u64 ((Wd.lo si).toNat)]), (43, .int .i64 n), (44, .tuple #[v1, .agg #[.int .u64 ((Wd.hi (Pc.its si n ss)).toNat), .int .u64 ((Wd.lo (Pc.its si n ss)).toNat), .int .u64 ((Wd.hi si).toNat), .int .u64 ((Wd.lo si).toNat)], .int .i64 0]), (41, .tuple #[v1, .agg #[.int .u64 ((Wd.hi (Pc.its si n ss)).toNat), .int .u64 ((Wd.lo (Pc.its si n ss)).toNat), .int .u64 ((Wd.hi si).toNat), .int .u64 ((Wd.lo si).toNat)], .int .i64 0]), (45, v1), (46, .agg #[.int .u64 ((Wd.hi (Pc.its si n ss)).toNat), .int .u64 ((Wd.lo (Pc.its si n ss)).toNat), .int .u64 ((Wd.hi si).toNat), .int .u64 ((Wd.lo si).toNat)]), (47, .int .i64 0), (8, .pointer (some ⟨g2, 0, none⟩)), (7, v1), (9, .int .i64 0), (10, .pointer (some ⟨g3, 0, none⟩)), (11, .int .i64 0), (58, .agg #[.int .u64 ((Wd.hi ss).toNat), .int .u64 ((Wd.lo ss).toNat), .int .u64 ((Wd.hi si).toNat), .int .u64 ((Wd.lo si).toNat)]), (59, .bool true), (60, .bool false), (57, .bool false), (83, .bool false)]) ⟨rfl, rfl, rfl, rfl, rfl, rfl, rfl, rfl, rfl, rfl, rfl, rfl, rfl, rfl, rfl, rfl, rfl, rfl, rfl, rfl, rfl, rfl, rfl, rfl, rfl, trivial⟩
        refine hK10 _ _ ?_
        refine Sx.condF F rfl ?_
        refine Sx.seq (fun K11 hK11 => ?_)
        refine Sx.plain ?_
        refine Sx.sv F (Sx.d_move F (Or.inl rfl) rfl) (Sx.wanted_none rfl _) rfl (by decide) (fun A F => ?_)
        refine Sx.sv F (Sx.d_bin (v := .bool false) F rfl rfl rfl (Sx.i_lt (decide_eq_false (by omega)))) (Sx.wanted_none rfl _) rfl (by decide) (fun A F => ?_)
        refine Sx.sv F (Sx.d_move F (Or.inl rfl) rfl) (Sx.wanted_none rfl _) rfl (by decide) (fun A F => ?_)
        refine Sx.sv F (Sx.d_move F (Or.inl rfl) rfl) (Sx.wanted_on rfl (Sx.guard_known (d := 100) (b := false) F rfl rfl) rfl) rfl (by decide) (fun A F => ?_)
        refine Sx.sv F (Sx.d_bin (v := .bool false) F rfl rfl rfl (Sx.i_gt (decide_eq_false (by omega)))) (Sx.wanted_on rfl (Sx.guard_known (d := 100) (b := false) F rfl rfl) rfl) rfl (by decide) (fun A F => ?_)
        refine Sx.sv F (Sx.d_pickF (v := .bool false) F rfl rfl rfl) (Sx.wanted_none rfl _) rfl (by decide) (fun A F => ?_)
        refine Sx.sv F (Sx.d_move F (Or.inr rfl) rfl) (Sx.wanted_none rfl _) rfl (by decide) (fun A F => ?_)
        refine Sx.nil ?_
        refine hK11 _ _ ?_
        refine Sx.condF F rfl ?_
        refine wp_skip ?_
        refine hK8 _ _ ?_
        refine Sx.seq (fun K12 hK12 => ?_)
        refine Sx.plain ?_
        refine Sx.sr (mk := fun v => v) F (Sx.d_litR (qs := #[]) (cs := #[]) (E := 22) (z := 1) F H rfl rfl (fun _ => by kernel_rfl) rfl (by decide)) (Sx.wanted_none rfl _) rfl (by decide) (fun v2 A w F (H : Sx.Own w0 _ [(true, g2, [.int .u64 ((Wd.hi (Pc.its si n ss)).toNat), .int .u64 ((Wd.lo (Pc.its si n ss)).toNat), .int .u64 ((Wd.hi si).toNat), .int .u64 ((Wd.lo si).toNat)]), (true, g1, [.int .u64 ((Wd.hi ss).toNat), .int .u64 ((Wd.lo ss).toNat), .int .u64 ((Wd.hi si).toNat), .int .u64 ((Wd.lo si).toNat)]), (true, g3, [.int .u64 ((Wd.hi ((Pc.jump ⟨ss, si⟩ (Wd.of (BitVec.ofNat 64 m))).s)).toNat), .int .u64 ((Wd.lo ((Pc.jump ⟨ss, si⟩ (Wd.of (BitVec.ofNat 64 m))).s)).toNat), .int .u64 ((Wd.hi si).toNat), .int .u64 ((Wd.lo si).toNat)])] [⟨true, v2, 22, 1, 0, []⟩, ⟨true, v1, 22, 1, n, (u64s (Pc.words si n ss))⟩]) => ?_)
        refine Sx.sv F (Sx.d_load (i := 1) (xs := [.int .u64 ((Wd.hi ss).toNat), .int .u64 ((Wd.lo ss).toNat), .int .u64 ((Wd.hi si).toNat), .int .u64 ((Wd.lo si).toNat)]) rw_57 F H rfl rfl rfl rfl rfl) (Sx.wanted_none rfl _) rfl (by decide) (fun A F => ?_)
        refine Sx.sw F (Sx.d_call (vs := [.agg #[.int .u64 ((Wd.hi ss).toNat), .int .u64 ((Wd.lo ss).toNat), .int .u64 ((Wd.hi si).toNat), .int .u64 ((Wd.lo si).toNat)]]) (v := .agg #[.int .u64 ((Wd.hi ss).toNat), .int .u64 ((Wd.lo ss).toNat), .int .u64 ((Wd.hi si).toNat), .int .u64 ((Wd.lo si).toNat)]) if_35 F H rfl rfl (own10_c ss si _)) (Sx.wanted_none rfl _) rfl (by decide) (fun A w F H => ?_)
        refine Sx.sb F (Sx.d_alloc H rfl [.int .u64 ((Wd.hi 0#128).toNat), .int .u64 ((Wd.lo 0#128).toNat), .int .u64 ((Wd.hi 0#128).toNat), .int .u64 ((Wd.lo 0#128).toNat)] zero_62) (Sx.wanted_none rfl _) rfl (by decide) (fun g4 A w F H => ?_)
        refine Sx.sv F (Sx.d_move F (Or.inr rfl) rfl) (Sx.wanted_none rfl _) rfl (by decide) (fun A F => ?_)
        refine Sx.ss F (Sx.d_store (i := 0) (xs := [.int .u64 ((Wd.hi ss).toNat), .int .u64 ((Wd.lo ss).toNat), .int .u64 ((Wd.hi si).toNat), .int .u64 ((Wd.lo si).toNat)]) (us := [.int .u64 ((Wd.hi ss).toNat), .int .u64 ((Wd.lo ss).toNat), .int .u64 ((Wd.hi si).toNat), .int .u64 ((Wd.lo si).toNat)]) sz_62 F H rfl rfl rfl rfl rfl rfl rfl (Nat.le_of_ble_eq_true rfl) rfl) (Sx.wanted_none rfl _) rfl (fun A w F (H : Sx.Own w0 _ [(true, g4, [.int .u64 ((Wd.hi ss).toNat), .int .u64 ((Wd.lo ss).toNat), .int .u64 ((Wd.hi si).toNat), .int .u64 ((Wd.lo si).toNat)]), (true, g2, [.int .u64 ((Wd.hi (Pc.its si n ss)).toNat), .int .u64 ((Wd.lo (Pc.its si n ss)).toNat), .int .u64 ((Wd.hi si).toNat), .int .u64 ((Wd.lo si).toNat)]), (true, g1, [.int .u64 ((Wd.hi ss).toNat), .int .u64 ((Wd.lo ss).toNat), .int .u64 ((Wd.hi si).toNat), .int .u64 ((Wd.lo si).toNat)]), (true, g3, [.int .u64 ((Wd.hi ((Pc.jump ⟨ss, si⟩ (Wd.of (BitVec.ofNat 64 m))).s)).toNat), .int .u64 ((Wd.lo ((Pc.jump ⟨ss, si⟩ (Wd.of (BitVec.ofNat 64 m))).s)).toNat), .int .u64 ((Wd.hi si).toNat), .int .u64 ((Wd.lo si).toNat)])] [⟨true, v2, 22, 1, 0, []⟩, ⟨true, v1, 22, 1, n, (u64s (Pc.words si n ss))⟩]) => ?_)
        refine Sx.nil ?_
        refine hK12 _ _ ?_
        refine Sx.seq (fun K13 hK13 => ?_)
        refine Sx.seq (fun K14 hK14 => ?_)
        refine Sx.plain ?_
        refine Sx.sv F (Sx.d_move F (Or.inl rfl) rfl) (Sx.wanted_none rfl _) rfl (by decide) (fun A F => ?_)
        refine Sx.sv F (Sx.d_move F (Or.inl rfl) rfl) (Sx.wanted_none rfl _) rfl (by decide) (fun A F => ?_)
        refine Sx.nil ?_
        refine hK14 _ _ ?_
        refine wp_block ?_
        have H := H
        refine Sx.loop (fun q A w => ∃ (j : Nat) (v : Value), q = n - j ∧ j ≤ n ∧ Sx.Fr 143 A [(1, .int .i64 n), (7, v1), (8, .pointer (some ⟨g2, 0, none⟩)), (9, .int .i64 0), (12, v), (13, .pointer (some ⟨g4, 0, none⟩)), (119, .int .i64 n), (120, .int .i64 j)] ∧ Sx.Own w0 w [(true, g4, [.int .u64 ((Wd.hi (Pc.its si j ss)).toNat), .int .u64 ((Wd.lo (Pc.its si j ss)).toNat), .int .u64 ((Wd.hi si).toNat), .int .u64 ((Wd.lo si).toNat)]), (true, g2, [.int .u64 ((Wd.hi (Pc.its si n ss)).toNat), .int .u64 ((Wd.lo (Pc.its si n ss)).toNat), .int .u64 ((Wd.hi si).toNat), .int .u64 ((Wd.lo si).toNat)]), (true, g1, [.int .u64 ((Wd.hi ss).toNat), .int .u64 ((Wd.lo ss).toNat), .int .u64 ((Wd.hi si).toNat), .int .u64 ((Wd.lo si).toNat)]), (true, g3, [.int .u64 ((Wd.hi ((Pc.jump ⟨ss, si⟩ (Wd.of (BitVec.ofNat 64 m))).s)).toNat), .int .u64 ((Wd.lo ((Pc.jump ⟨ss, si⟩ (Wd.of (BitVec.ofNat 64 m))).s)).toNat), .int .u64 ((Wd.hi si).toNat), .int .u64 ((Wd.lo si).toNat)])] [⟨true, v, 22, 1, j, (u64s (Pc.words si j ss))⟩, ⟨true, v1, 22, 1, n, (u64s (Pc.words si n ss))⟩]) n ⟨0, v2, rfl, Nat.zero_le _, F.to ⟨rfl, rfl, rfl, rfl, rfl, rfl, rfl, rfl, trivial⟩, H⟩ ?_
        rintro q A w ⟨j, v, rfl, hj, F, H⟩
        by_cases hlt : j < n
        · skip
          refine Sx.seq (fun K15 hK15 => ?_)
          refine Sx.plain ?_
          refine Sx.sv F (Sx.d_bin (v := .bool true) F rfl rfl rfl (Sx.i_lt (decide_eq_true (by omega)))) (Sx.wanted_none rfl _) rfl (by decide) (fun A F => ?_)
          refine Sx.nil ?_
          refine hK15 _ _ ?_
          refine Sx.seq (fun K16 hK16 => ?_)
          refine Sx.condT F rfl ?_
          refine wp_skip ?_
          refine hK16 _ _ ?_
          refine Sx.seq (fun K17 hK17 => ?_)
          refine wp_block ?_
          refine Sx.seq (fun K18 hK18 => ?_)
          refine Sx.plain ?_
          refine Sx.sv F (Sx.d_move F (Or.inl rfl) rfl) (Sx.wanted_none rfl _) rfl (by decide) (fun A F => ?_)
          refine Sx.sv F (Sx.d_load (i := 0) (xs := [.int .u64 ((Wd.hi (Pc.its si j ss)).toNat), .int .u64 ((Wd.lo (Pc.its si j ss)).toNat), .int .u64 ((Wd.hi si).toNat), .int .u64 ((Wd.lo si).toNat)]) rw_62 F H rfl rfl rfl rfl rfl) (Sx.wanted_none rfl _) rfl (by decide) (fun A F => ?_)
          refine Sx.sw F (Sx.d_call (vs := [.agg #[.int .u64 ((Wd.hi (Pc.its si j ss)).toNat), .int .u64 ((Wd.lo (Pc.its si j ss)).toNat), .int .u64 ((Wd.hi si).toNat), .int .u64 ((Wd.lo si).toNat)]]) (v := .int .u64 ((Pc.word (Pc.its si j ss)).toNat)) if_34 F H rfl rfl (rword10_c (Pc.its si j ss) si _)) (Sx.wanted_none rfl _) rfl (by decide) (fun A w F H => ?_)
          refine Sx.sg (mk := fun g => .slice (some ⟨g, 0, none⟩) 1 1) F (Sx.d_lit (qs := #[(0, .int .u64 ((Pc.word (Pc.its si j ss)).toNat))]) (cs := #[.int .u64 ((Pc.word (Pc.its si j ss)).toNat)]) (E := 22) F H rfl rfl (fun _ => by kernel_rfl)) (Sx.wanted_none rfl _) rfl (by decide) (fun g5 A w F (H : Sx.Own w0 _ [(true, g5, [.int .u64 ((Pc.word (Pc.its si j ss)).toNat)]), (true, g4, [.int .u64 ((Wd.hi (Pc.its si j ss)).toNat), .int .u64 ((Wd.lo (Pc.its si j ss)).toNat), .int .u64 ((Wd.hi si).toNat), .int .u64 ((Wd.lo si).toNat)]), (true, g2, [.int .u64 ((Wd.hi (Pc.its si n ss)).toNat), .int .u64 ((Wd.lo (Pc.its si n ss)).toNat), .int .u64 ((Wd.hi si).toNat), .int .u64 ((Wd.lo si).toNat)]), (true, g1, [.int .u64 ((Wd.hi ss).toNat), .int .u64 ((Wd.lo ss).toNat), .int .u64 ((Wd.hi si).toNat), .int .u64 ((Wd.lo si).toNat)]), (true, g3, [.int .u64 ((Wd.hi ((Pc.jump ⟨ss, si⟩ (Wd.of (BitVec.ofNat 64 m))).s)).toNat), .int .u64 ((Wd.lo ((Pc.jump ⟨ss, si⟩ (Wd.of (BitVec.ofNat 64 m))).s)).toNat), .int .u64 ((Wd.hi si).toNat), .int .u64 ((Wd.lo si).toNat)])] [⟨true, v, 22, 1, j, (u64s (Pc.words si j ss))⟩, ⟨true, v1, 22, 1, n, (u64s (Pc.words si n ss))⟩]) => ?_)
          refine Sx.sr (mk := fun v => v) F (Sx.d_append (i := 0) (j := 0) el_67 F H rfl rfl rfl rfl rfl rfl rfl rfl (by omega) (by decide)) (Sx.wanted_none rfl _) rfl (by decide) (fun v3 A w F (H : Sx.Own w0 _ [(true, g5, [.int .u64 ((Pc.word (Pc.its si j ss)).toNat)]), (true, g4, [.int .u64 ((Wd.hi (Pc.its si j ss)).toNat), .int .u64 ((Wd.lo (Pc.its si j ss)).toNat), .int .u64 ((Wd.hi si).toNat), .int .u64 ((Wd.lo si).toNat)]), (true, g2, [.int .u64 ((Wd.hi (Pc.its si n ss)).toNat), .int .u64 ((Wd.lo (Pc.its si n ss)).toNat), .int .u64 ((Wd.hi si).toNat), .int .u64 ((Wd.lo si).toNat)]), (true, g1, [.int .u64 ((Wd.hi ss).toNat), .int .u64 ((Wd.lo ss).toNat), .int .u64 ((Wd.hi si).toNat), .int .u64 ((Wd.lo si).toNat)]), (true, g3, [.int .u64 ((Wd.hi ((Pc.jump ⟨ss, si⟩ (Wd.of (BitVec.ofNat 64 m))).s)).toNat), .int .u64 ((Wd.lo ((Pc.jump ⟨ss, si⟩ (Wd.of (BitVec.ofNat 64 m))).s)).toNat), .int .u64 ((Wd.hi si).toNat), .int .u64 ((Wd.lo si).toNat)])] [⟨true, v3, 22, 1, (j + 1), (u64s (Pc.words si j ss)) ++ [.int .u64 ((Pc.word (Pc.its si j ss)).toNat)]⟩, ⟨true, v1, 22, 1, n, (u64s (Pc.words si n ss))⟩]) => ?_)
          refine Sx.sv F (Sx.d_move F (Or.inr rfl) rfl) (Sx.wanted_none rfl _) rfl (by decide) (fun A F => ?_)
          refine Sx.nil ?_
          refine hK18 _ _ ?_
          refine Sx.plain ?_
          refine Sx.sv F (Sx.d_load (i := 1) (xs := [.int .u64 ((Wd.hi (Pc.its si j ss)).toNat), .int .u64 ((Wd.lo (Pc.its si j ss)).toNat), .int .u64 ((Wd.hi si).toNat), .int .u64 ((Wd.lo si).toNat)]) rw_62 F H rfl rfl rfl rfl rfl) (Sx.wanted_none rfl _) rfl (by decide) (fun A F => ?_)
          refine Sx.sw F (Sx.d_call (vs := [.agg #[.int .u64 ((Wd.hi (Pc.its si j ss)).toNat), .int .u64 ((Wd.lo (Pc.its si j ss)).toNat), .int .u64 ((Wd.hi si).toNat), .int .u64 ((Wd.lo si).toNat)]]) (v := .agg #[.int .u64 ((Wd.hi ((Pc.step ⟨(Pc.its si j ss), si⟩).s)).toNat), .int .u64 ((Wd.lo ((Pc.step ⟨(Pc.its si j ss), si⟩).s)).toNat), .int .u64 ((Wd.hi si).toNat), .int .u64 ((Wd.lo si).toNat)]) if_37 F H rfl rfl (rstep10_c (Pc.its si j ss) si _)) (Sx.wanted_none rfl _) rfl (by decide) (fun A w F H => ?_)
          refine Sx.ss F (Sx.d_store (i := 1) (xs := [.int .u64 ((Wd.hi ((Pc.step ⟨(Pc.its si j ss), si⟩).s)).toNat), .int .u64 ((Wd.lo ((Pc.step ⟨(Pc.its si j ss), si⟩).s)).toNat), .int .u64 ((Wd.hi si).toNat), .int .u64 ((Wd.lo si).toNat)]) (us := [.int .u64 ((Wd.hi ((Pc.step ⟨(Pc.its si j ss), si⟩).s)).toNat), .int .u64 ((Wd.lo ((Pc.step ⟨(Pc.its si j ss), si⟩).s)).toNat), .int .u64 ((Wd.hi si).toNat), .int .u64 ((Wd.lo si).toNat)]) sz_62 F H rfl rfl rfl rfl rfl rfl rfl (Nat.le_of_ble_eq_true rfl) rfl) (Sx.wanted_none rfl _) rfl (fun A w F (H : Sx.Own w0 _ [(true, g5, [.int .u64 ((Pc.word (Pc.its si j ss)).toNat)]), (true, g4, [.int .u64 ((Wd.hi ((Pc.step ⟨(Pc.its si j ss), si⟩).s)).toNat), .int .u64 ((Wd.lo ((Pc.step ⟨(Pc.its si j ss), si⟩).s)).toNat), .int .u64 ((Wd.hi si).toNat), .int .u64 ((Wd.lo si).toNat)]), (true, g2, [.int .u64 ((Wd.hi (Pc.its si n ss)).toNat), .int .u64 ((Wd.lo (Pc.its si n ss)).toNat), .int .u64 ((Wd.hi si).toNat), .int .u64 ((Wd.lo si).toNat)]), (true, g1, [.int .u64 ((Wd.hi ss).toNat), .int .u64 ((Wd.lo ss).toNat), .int .u64 ((Wd.hi si).toNat), .int .u64 ((Wd.lo si).toNat)]), (true, g3, [.int .u64 ((Wd.hi ((Pc.jump ⟨ss, si⟩ (Wd.of (BitVec.ofNat 64 m))).s)).toNat), .int .u64 ((Wd.lo ((Pc.jump ⟨ss, si⟩ (Wd.of (BitVec.ofNat 64 m))).s)).toNat), .int .u64 ((Wd.hi si).toNat), .int .u64 ((Wd.lo si).toNat)])] [⟨true, v3, 22, 1, (j + 1), (u64s (Pc.words si j ss)) ++ [.int .u64 ((Pc.word (Pc.its si j ss)).toNat)]⟩, ⟨true, v1, 22, 1, n, (u64s (Pc.words si n ss))⟩]) => ?_)
          refine Sx.nil ?_
          refine hK17 _ _ ?_
          refine Sx.plain ?_
          refine Sx.sv F (Sx.d_bin (v := .int .i64 (j + 1 : Nat)) F rfl rfl rfl (Sx.i_addN rfl (Sx.in_i64 _ (by omega)))) (Sx.wanted_none rfl _) rfl (by decide) (fun A F => ?_)
          refine Sx.sv F (Sx.d_move F (Or.inl rfl) rfl) (Sx.wanted_none rfl _) rfl (by decide) (fun A F => ?_)
          refine Sx.nil ?_
          try dsimp only [Exit.then]
          exact ⟨n - (j + 1), by omega, j + 1, v3, rfl, by omega, F.to ⟨rfl, rfl, rfl, rfl, rfl, rfl, rfl, rfl, trivial⟩, by rw [Pc.words_succ, u64s_snoc]; exact H.to' [1, 2, 3, 4] [0, 1] (by decide) (by decide) rfl rfl⟩
        · obtain rfl : j = n := by omega
          refine Sx.seq (fun K19 hK19 => ?_)
          refine Sx.plain ?_
          refine Sx.sv F (Sx.d_bin (v := .bool false) F rfl rfl rfl (Sx.i_lt (by simp))) (Sx.wanted_none rfl _) rfl (by decide) (fun A F => ?_)
          refine Sx.nil ?_
          refine hK19 _ _ ?_
          refine Sx.seq (fun K20 hK20 => ?_)
          refine Sx.condF F rfl ?_
          refine wp_exit ?_
          try dsimp only [Exit.then, Exit.jump]
          refine Sx.exit_here ?_
          refine hK13 _ _ ?_
          refine Sx.seq (fun K21 hK21 => ?_)
          have F := Sx.Fr.to F (kv' := [(1, .int .i64 j), (7, v1), (8, .pointer (some ⟨g2, 0, none⟩)), (9, .int .i64 0), (12, v), (13, .pointer (some ⟨g4, 0, none⟩)), (119, .int .i64 j), (120, .int .i64 j), (121, .bool false)]) ⟨rfl, rfl, rfl, rfl, rfl, rfl, rfl, rfl, rfl, trivial⟩
          refine Sx.drawn F (by kernel_rfl) (by kernel_rfl) (by kernel_rfl) [some (.int .i64 0), some (.bool true), some (.bool true), some (v1), some (v), some (.bool true), some (.bool true), some (.bool true), some (.agg #[.int .u64 ((Wd.hi (Pc.its si j ss)).toNat), .int .u64 ((Wd.lo (Pc.its si j ss)).toNat), .int .u64 ((Wd.hi si).toNat), .int .u64 ((Wd.lo si).toNat)]), some (.agg #[.int .u64 ((Wd.hi (Pc.its si j ss)).toNat), .int .u64 ((Wd.lo (Pc.its si j ss)).toNat), .int .u64 ((Wd.hi si).toNat), .int .u64 ((Wd.lo si).toNat)]), some (.agg #[.int .u64 ((Wd.hi (Pc.its si j ss)).toNat), .int .u64 ((Wd.lo (Pc.its si j ss)).toNat), .int .u64 ((Wd.hi si).toNat), .int .u64 ((Wd.lo si).toNat)]), some (.bool true), some (.bool true), some (.bool true)] (fun L A w => Sx.Own w0 w [(true, g4, [.int .u64 ((Wd.hi (Pc.its si j ss)).toNat), .int .u64 ((Wd.lo (Pc.its si j ss)).toNat), .int .u64 ((Wd.hi si).toNat), .int .u64 ((Wd.lo si).toNat)]), (true, g2, [.int .u64 ((Wd.hi (Pc.its si j ss)).toNat), .int .u64 ((Wd.lo (Pc.its si j ss)).toNat), .int .u64 ((Wd.hi si).toNat), .int .u64 ((Wd.lo si).toNat)]), (true, g1, [.int .u64 ((Wd.hi ss).toNat), .int .u64 ((Wd.lo ss).toNat), .int .u64 ((Wd.hi si).toNat), .int .u64 ((Wd.lo si).toNat)]), (true, g3, [.int .u64 ((Wd.hi ((Pc.jump ⟨ss, si⟩ (Wd.of (BitVec.ofNat 64 m))).s)).toNat), .int .u64 ((Wd.lo ((Pc.jump ⟨ss, si⟩ (Wd.of (BitVec.ofNat 64 m))).s)).toNat), .int .u64 ((Wd.hi si).toNat), .int .u64 ((Wd.lo si).toNat)])] [⟨true, v, 22, 1, j, (u64s (Pc.words si j ss))⟩, ⟨true, v1, 22, 1, j, (u64s (Pc.words si j ss))⟩]) H.drew ?_ ?_
          · refine ⟨?_, ?_, ?_, ?_, ?_, ?_, ?_, ?_, ?_, ?_, ?_, ?_, ?_, ?_, trivial⟩
            · show Sx.StepAt _ _ _ _ _ _ _ 0
              intro L A w up hun hd F H
              have F := Sx.Fr.to F (kv' := [(9, .int .i64 0)]) ⟨rfl, trivial⟩
              refine Sx.step_on rfl (Sx.d_move F (Or.inl rfl) rfl) ?_
              rintro xv w' ⟨hx, rfl⟩
              exact ⟨(fun cv hc => hx.trans (Option.some.inj (Option.some.inj hc))), H⟩
            · show Sx.StepAt _ _ _ _ _ _ _ 1
              intro L A w up hun hd F H
              have F := Sx.Fr.to F (kv' := [(130, .int .i64 0)]) ⟨rfl, trivial⟩
              refine Sx.step_on rfl (Sx.d_bin (v := .bool true) F rfl rfl rfl (Sx.i_eq (by decide))) ?_
              rintro xv w' ⟨hx, rfl⟩
              exact ⟨(fun cv hc => hx.trans (Option.some.inj (Option.some.inj hc))), H⟩
            · show Sx.StepAt _ _ _ _ _ _ _ 2
              intro L A w up hun hd F H
              have F := Sx.Fr.to F (kv' := [(131, .bool true)]) ⟨rfl, trivial⟩
              refine Sx.step_on rfl (Sx.d_move F (Or.inl rfl) rfl) ?_
              rintro xv w' ⟨hx, rfl⟩
              exact ⟨(fun cv hc => hx.trans (Option.some.inj (Option.some.inj hc))), H⟩
            · show Sx.StepAt _ _ _ _ _ _ _ 3
              intro L A w up hun hd F H
              have F := Sx.Fr.to F (kv' := [(7, v1), (132, .bool true)]) ⟨rfl, rfl, trivial⟩
              refine Sx.step_ong rfl (Sx.guard_known (d := 132) (b := true) F rfl rfl) rfl (Sx.d_move F (Or.inl rfl) rfl) ?_
              rintro xv w' ⟨hx, rfl⟩
              exact ⟨(fun cv hc => hx.trans (Option.some.inj (Option.some.inj hc))), H⟩
            · show Sx.StepAt _ _ _ _ _ _ _ 4
              intro L A w up hun hd F H
              have F := Sx.Fr.to F (kv' := [(12, v), (132, .bool true)]) ⟨rfl, rfl, trivial⟩
              refine Sx.step_ong rfl (Sx.guard_known (d := 132) (b := true) F rfl rfl) rfl (Sx.d_move F (Or.inl rfl) rfl) ?_
              rintro xv w' ⟨hx, rfl⟩
              exact ⟨(fun cv hc => hx.trans (Option.some.inj (Option.some.inj hc))), H⟩
            · show Sx.StepAt _ _ _ _ _ _ _ 5
              intro L A w up hun hd F H
              have F := Sx.Fr.to F (kv' := [(133, v1), (134, v), (132, .bool true)]) ⟨rfl, rfl, rfl, trivial⟩
              refine Sx.step_ong rfl (Sx.guard_known (d := 132) (b := true) F rfl rfl) rfl (Sx.d_call (vs := [v1, v]) (v := .bool true) if_42 F H rfl rfl (words_same (Pc.words si j ss) (by rw [Pc.words_length]; omega) _ _ _ _ _ (Sx.rowEq (H.row 1 _ rfl rfl) rfl rfl rfl ((Pc.words_length si j ss).symm) (rfl)) (Sx.rowEq (H.row 0 _ rfl rfl) rfl rfl rfl ((Pc.words_length si j ss).symm) (rfl)))) ?_
              rintro xv w' ⟨hx, H⟩
              exact ⟨(fun cv hc => hx.trans (Option.some.inj (Option.some.inj hc))), H⟩
            · show Sx.StepAt _ _ _ _ _ _ _ 6
              intro L A w up hun hd F H
              have F := Sx.Fr.to F (kv' := [(132, .bool true), (135, .bool true)]) ⟨rfl, rfl, trivial⟩
              refine Sx.step_on rfl (Sx.d_pickT (v := .bool true) F rfl rfl rfl) ?_
              rintro xv w' ⟨hx, rfl⟩
              exact ⟨(fun cv hc => hx.trans (Option.some.inj (Option.some.inj hc))), H⟩
            · show Sx.StepAt _ _ _ _ _ _ _ 7
              intro L A w up hun hd F H
              have F := Sx.Fr.to F (kv' := [(136, .bool true)]) ⟨rfl, trivial⟩
              refine Sx.step_on rfl (Sx.d_move F (Or.inl rfl) rfl) ?_
              rintro xv w' ⟨hx, rfl⟩
              exact ⟨(fun cv hc => hx.trans (Option.some.inj (Option.some.inj hc))), H⟩
            · show Sx.StepAt _ _ _ _ _ _ _ 8
              intro L A w up hun hd F H
              have F := Sx.Fr.to F (kv' := [(8, .pointer (some ⟨g2, 0, none⟩)), (137, .bool true)]) ⟨rfl, rfl, trivial⟩
              refine Sx.step_ong rfl (Sx.guard_known (d := 137) (b := true) F rfl rfl) rfl (Sx.d_load (i := 1) (xs := [.int .u64 ((Wd.hi (Pc.its si j ss)).toNat), .int .u64 ((Wd.lo (Pc.its si j ss)).toNat), .int .u64 ((Wd.hi si).toNat), .int .u64 ((Wd.lo si).toNat)]) rw_57 F H rfl rfl rfl rfl rfl) ?_
              rintro xv w' ⟨hx, rfl⟩
              exact ⟨(fun cv hc => hx.trans (Option.some.inj (Option.some.inj hc))), H⟩
            · show Sx.StepAt _ _ _ _ _ _ _ 9
              intro L A w up hun hd F H
              have F := Sx.Fr.to F (kv' := [(138, .agg #[.int .u64 ((Wd.hi (Pc.its si j ss)).toNat), .int .u64 ((Wd.lo (Pc.its si j ss)).toNat), .int .u64 ((Wd.hi si).toNat), .int .u64 ((Wd.lo si).toNat)]), (137, .bool true)]) ⟨rfl, rfl, trivial⟩
              refine Sx.step_ong rfl (Sx.guard_known (d := 137) (b := true) F rfl rfl) rfl (Sx.d_call (vs := [.agg #[.int .u64 ((Wd.hi (Pc.its si j ss)).toNat), .int .u64 ((Wd.lo (Pc.its si j ss)).toNat), .int .u64 ((Wd.hi si).toNat), .int .u64 ((Wd.lo si).toNat)]]) (v := .agg #[.int .u64 ((Wd.hi (Pc.its si j ss)).toNat), .int .u64 ((Wd.lo (Pc.its si j ss)).toNat), .int .u64 ((Wd.hi si).toNat), .int .u64 ((Wd.lo si).toNat)]) if_35 F H rfl rfl (own10_c (Pc.its si j ss) si _)) ?_
              rintro xv w' ⟨hx, H⟩
              exact ⟨(fun cv hc => hx.trans (Option.some.inj (Option.some.inj hc))), H⟩
            · show Sx.StepAt _ _ _ _ _ _ _ 10
              intro L A w up hun hd F H
              have F := Sx.Fr.to F (kv' := [(13, .pointer (some ⟨g4, 0, none⟩)), (137, .bool true)]) ⟨rfl, rfl, trivial⟩
              refine Sx.step_ong rfl (Sx.guard_known (d := 137) (b := true) F rfl rfl) rfl (Sx.d_load (i := 0) (xs := [.int .u64 ((Wd.hi (Pc.its si j ss)).toNat), .int .u64 ((Wd.lo (Pc.its si j ss)).toNat), .int .u64 ((Wd.hi si).toNat), .int .u64 ((Wd.lo si).toNat)]) rw_62 F H rfl rfl rfl rfl rfl) ?_
              rintro xv w' ⟨hx, rfl⟩
              exact ⟨(fun cv hc => hx.trans (Option.some.inj (Option.some.inj hc))), H⟩
            · show Sx.StepAt _ _ _ _ _ _ _ 11
              intro L A w up hun hd F H
              have F := Sx.Fr.to F (kv' := [(139, .agg #[.int .u64 ((Wd.hi (Pc.its si j ss)).toNat), .int .u64 ((Wd.lo (Pc.its si j ss)).toNat), .int .u64 ((Wd.hi si).toNat), .int .u64 ((Wd.lo si).toNat)]), (140, .agg #[.int .u64 ((Wd.hi (Pc.its si j ss)).toNat), .int .u64 ((Wd.lo (Pc.its si j ss)).toNat), .int .u64 ((Wd.hi si).toNat), .int .u64 ((Wd.lo si).toNat)]), (137, .bool true)]) ⟨rfl, rfl, rfl, trivial⟩
              refine Sx.step_ong rfl (Sx.guard_known (d := 137) (b := true) F rfl rfl) rfl (Sx.d_bin (v := .bool true) F rfl rfl rfl (Sx.i_eqQ (Sx.eqbM_true rfl rfl))) ?_
              rintro xv w' ⟨hx, rfl⟩
              exact ⟨(fun cv hc => hx.trans (Option.some.inj (Option.some.inj hc))), H⟩
            · show Sx.StepAt _ _ _ _ _ _ _ 12
              intro L A w up hun hd F H
              have F := Sx.Fr.to F (kv' := [(137, .bool true), (141, .bool true)]) ⟨rfl, rfl, trivial⟩
              refine Sx.step_on rfl (Sx.d_pickT (v := .bool true) F rfl rfl rfl) ?_
              rintro xv w' ⟨hx, rfl⟩
              exact ⟨(fun cv hc => hx.trans (Option.some.inj (Option.some.inj hc))), H⟩
            · show Sx.StepAt _ _ _ _ _ _ _ 13
              intro L A w up hun hd F H
              have F := Sx.Fr.to F (kv' := [(142, .bool true)]) ⟨rfl, trivial⟩
              refine Sx.step_on rfl (Sx.d_move F (Or.inr rfl) rfl) ?_
              rintro xv w' ⟨hx, rfl⟩
              exact ⟨(fun cv hc => hx.trans (Option.some.inj (Option.some.inj hc))), H⟩
          · intro L A w hL F H
            have F := Sx.Fr.to F (kv' := [(1, .int .i64 j), (7, v1), (8, .pointer (some ⟨g2, 0, none⟩)), (9, .int .i64 0), (12, v), (13, .pointer (some ⟨g4, 0, none⟩)), (119, .int .i64 j), (120, .int .i64 j), (121, .bool false), (6, .bool true)]) ⟨rfl, rfl, rfl, rfl, rfl, rfl, rfl, rfl, rfl, rfl, trivial⟩
            refine hK21 _ _ ?_
            refine wp_ret ?_
            try dsimp only [Exit.then, Exit.inBlock, Exit.jump]
            refine Sx.ret1 F Try.results7 (Sx.res_tmp (v := .bool true) F rfl) ⟨?_, H.below⟩
            rfl
theorem pcgTells_walk (ss si : BitVec 128) (many : Int) (nn : Nat) (hnn : nn < 65536) (w : World) : Calls Try.prog 7 #[.agg #[.int .u64 (Wd.hi (ss)).toNat, .int .u64 (Wd.lo (ss)).toNat, .int .u64 (Wd.hi (si)).toNat, .int .u64 (Wd.lo (si)).toNat], .int .i64 many, .int .u16 nn] w fun e w' => e = .returned (.bool true) ∧ Below w.heap.size w w' := by
  cases ho : Af.odd si
  · exact pcgTells_no ss si nn hnn many ho w
  · by_cases h0 : many < 0
    · exact pcgTells_lo ss si nn hnn many ho h0 w
    · by_cases h1 : 256 < many
      · exact pcgTells_hi ss si nn hnn many ho h1 w
      · obtain ⟨n, rfl⟩ := Int.eq_ofNat_of_zero_le (show 0 ≤ many from by omega)
        exact pcgTells_ok ss si nn hnn n ho (by omega) w
end Go.Proofs.Ytpbdffmgendboaa
