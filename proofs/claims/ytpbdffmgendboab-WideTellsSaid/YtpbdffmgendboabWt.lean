/- WideTells walked. -/
import Derived.Test.YtpbdffmgendboabAw
import Derived.Test.YtpbdffmgendboabRq
import Derived.Test.YtpbdffmgendboabLb
import Derived.Test.YtpbdffmgendboabP9
import Derived.Test.YtpbdffmgendboabR1M
import Derived.Test.YtpbdffmgendboabR1S
namespace Go.Proofs.Ytpbdffmgendboab
open Go Go.RowKit
/-- a bit at any place -/
def Wd.bitI (a : BitVec 128) (n : Int) : Nat := if n < 0 then 0 else Wd.bit a n.toNat
theorem Wd.shl_min (x : BitVec 128) (n : Int) : x <<< min n.toNat 128 = x <<< n.toNat := by
  by_cases h : n.toNat ≤ 128
  · rw [Nat.min_eq_left h]
  · rw [Nat.min_eq_right (by omega)]
    have e : ∀ k : Nat, 128 ≤ k → x <<< k = 0#128 := fun k hk => by
      apply BitVec.eq_of_getLsbD_eq
      intro i hi
      rw [BitVec.getLsbD_shiftLeft]; simp; omega
    rw [e 128 (Nat.le_refl _), e n.toNat (by omega)]
theorem Wd.full_mul (a b : BitVec 64) : Wd.full a b = Wd.mk 0#64 a * Wd.mk 0#64 b := by
  apply BitVec.eq_of_toNat_eq
  have e : ∀ c : BitVec 64, (Wd.mk 0#64 c).toNat = c.toNat := fun c => by rw [Wd.mk_nat]; simp
  have ha := (Wd.full a b).isLt
  rw [BitVec.toNat_mul, e, e, ← Wd.full_nat]; omega
set_option maxRecDepth 100000 in
theorem rbit_lo (x : BitVec 128) (n : Int) (h : n < 0) (w0 : World) : Calls Try.prog 32 #[.agg #[.int .u64 ((Wd.hi x).toNat), .int .u64 ((Wd.lo x).toNat)], .int .i64 n] w0 fun e w' => e = .returned (.int .i64 0) ∧ Below w0.heap.size w0 w' := by
  refine Sx.enter (args := [.agg #[.int .u64 ((Wd.hi x).toNat), .int .u64 ((Wd.lo x).toNat)], .int .i64 n]) Try.func32 rfl Try.ntmps32 (Nat.le_of_ble_eq_true rfl) (fun A F => ?_)
  have H := Sx.Own.start w0
  refine Sx.seq (fun K1 hK1 => ?_)
  refine Sx.plain ?_
  refine Sx.sb F (Sx.d_box F H rfl rfl [.int .u64 ((Wd.hi x).toNat), .int .u64 ((Wd.lo x).toNat)] rfl) (Sx.wanted_none rfl _) rfl (by decide) (fun g1 A w F H => ?_)
  refine Sx.sv F (Sx.d_move F (Or.inr rfl) rfl) (Sx.wanted_none rfl _) rfl (by decide) (fun A F => ?_)
  refine Sx.nil ?_
  refine hK1 _ _ ?_
  refine Sx.seq (fun K2 hK2 => ?_)
  refine Sx.seq (fun K3 hK3 => ?_)
  refine Sx.plain ?_
  refine Sx.sv F (Sx.d_move F (Or.inl rfl) rfl) (Sx.wanted_none rfl _) rfl (by decide) (fun A F => ?_)
  refine Sx.sv F (Sx.d_bin (v := .bool true) F rfl rfl rfl (Sx.i_lt (decide_eq_true h))) (Sx.wanted_none rfl _) rfl (by decide) (fun A F => ?_)
  refine Sx.sv F (Sx.d_move F (Or.inl rfl) rfl) (Sx.wanted_none rfl _) rfl (by decide) (fun A F => ?_)
  refine Sx.su F (Sx.wanted_off rfl (Sx.guard_known (d := 7) (b := true) F rfl rfl) rfl) rfl (by decide) (fun A F => ?_)
  refine Sx.su F (Sx.wanted_off rfl (Sx.guard_known (d := 7) (b := true) F rfl rfl) rfl) rfl (by decide) (fun A F => ?_)
  refine Sx.sv F (Sx.d_pickT (v := .bool true) F rfl rfl rfl) (Sx.wanted_none rfl _) rfl (by decide) (fun A F => ?_)
  refine Sx.nil ?_
  refine hK3 _ _ ?_
  refine Sx.condT F rfl ?_
  refine Sx.seq (fun K4 hK4 => ?_)
  refine Sx.plain ?_
  refine Sx.sv F (Sx.d_move F (Or.inr rfl) rfl) (Sx.wanted_none rfl _) rfl (by decide) (fun A F => ?_)
  refine Sx.nil ?_
  refine hK4 _ _ ?_
  refine wp_ret ?_
  try dsimp only [Exit.then, Exit.inBlock, Exit.jump]
  refine Sx.ret1 F Try.results32 (Sx.res_tmp (v := .int .i64 0) F rfl) ⟨?_, H.below⟩
  rfl
set_option maxRecDepth 100000 in
theorem rbit_hi (x : BitVec 128) (n : Int) (h : 127 < n) (w0 : World) : Calls Try.prog 32 #[.agg #[.int .u64 ((Wd.hi x).toNat), .int .u64 ((Wd.lo x).toNat)], .int .i64 n] w0 fun e w' => e = .returned (.int .i64 0) ∧ Below w0.heap.size w0 w' := by
  refine Sx.enter (args := [.agg #[.int .u64 ((Wd.hi x).toNat), .int .u64 ((Wd.lo x).toNat)], .int .i64 n]) Try.func32 rfl Try.ntmps32 (Nat.le_of_ble_eq_true rfl) (fun A F => ?_)
  have H := Sx.Own.start w0
  refine Sx.seq (fun K1 hK1 => ?_)
  refine Sx.plain ?_
  refine Sx.sb F (Sx.d_box F H rfl rfl [.int .u64 ((Wd.hi x).toNat), .int .u64 ((Wd.lo x).toNat)] rfl) (Sx.wanted_none rfl _) rfl (by decide) (fun g1 A w F H => ?_)
  refine Sx.sv F (Sx.d_move F (Or.inr rfl) rfl) (Sx.wanted_none rfl _) rfl (by decide) (fun A F => ?_)
  refine Sx.nil ?_
  refine hK1 _ _ ?_
  refine Sx.seq (fun K2 hK2 => ?_)
  refine Sx.seq (fun K3 hK3 => ?_)
  refine Sx.plain ?_
  refine Sx.sv F (Sx.d_move F (Or.inl rfl) rfl) (Sx.wanted_none rfl _) rfl (by decide) (fun A F => ?_)
  refine Sx.sv F (Sx.d_bin (v := .bool false) F rfl rfl rfl (Sx.i_lt (decide_eq_false (by omega)))) (Sx.wanted_none rfl _) rfl (by decide) (fun A F => ?_)
  refine Sx.sv F (Sx.d_move F (Or.inl rfl) rfl) (Sx.wanted_none rfl _) rfl (by decide) (fun A F => ?_)
  refine Sx.sv F (Sx.d_move F (Or.inl rfl) rfl) (Sx.wanted_on rfl (Sx.guard_known (d := 7) (b := false) F rfl rfl) rfl) rfl (by decide) (fun A F => ?_)
  refine Sx.sv F (Sx.d_bin (v := .bool true) F rfl rfl rfl (Sx.i_gt (decide_eq_true (by omega)))) (Sx.wanted_on rfl (Sx.guard_known (d := 7) (b := false) F rfl rfl) rfl) rfl (by decide) (fun A F => ?_)
  refine Sx.sv F (Sx.d_pickF (v := .bool true) F rfl rfl rfl) (Sx.wanted_none rfl _) rfl (by decide) (fun A F => ?_)
  refine Sx.nil ?_
  refine hK3 _ _ ?_
  refine Sx.condT F rfl ?_
  refine Sx.seq (fun K4 hK4 => ?_)
  refine Sx.plain ?_
  refine Sx.sv F (Sx.d_move F (Or.inr rfl) rfl) (Sx.wanted_none rfl _) rfl (by decide) (fun A F => ?_)
  refine Sx.nil ?_
  refine hK4 _ _ ?_
  refine wp_ret ?_
  try dsimp only [Exit.then, Exit.inBlock, Exit.jump]
  refine Sx.ret1 F Try.results32 (Sx.res_tmp (v := .int .i64 0) F rfl) ⟨?_, H.below⟩
  rfl
theorem rbitI_c (x : BitVec 128) (n : Int) (w : World) : Calls Try.prog 32 #[.agg #[.int .u64 ((Wd.hi x).toNat), .int .u64 ((Wd.lo x).toNat)], .int .i64 n] w fun e w' => e = .returned (.int .i64 (Wd.bitI x n : Nat)) ∧ Below w.heap.size w w' := by
  by_cases h0 : n < 0
  · rw [Wd.bitI, if_pos h0]; exact rbit_lo x n h0 w
  · rw [Wd.bitI, if_neg h0]
    by_cases h1 : 127 < n
    · rw [Wd.bit_big x n.toNat (by omega)]; exact rbit_hi x n h1 w
    · obtain ⟨k, rfl⟩ := Int.eq_ofNat_of_zero_le (show 0 ≤ n from by omega)
      exact rbitN_c x k (by omega) w
theorem wbitI_c (x : BitVec 128) (n : Int) (hn : n ≤ 9223372036854775807) (w : World) : Calls Try.prog 18 #[.agg #[.int .u64 ((Wd.hi x).toNat), .int .u64 ((Wd.lo x).toNat)], .int .i64 n] w fun e w' => e = .returned (.int .i64 (Wd.bitI x n : Nat)) ∧ Below w.heap.size w w' := by
  by_cases h0 : n < 0
  · rw [Wd.bitI, if_pos h0]; exact wbitneg_c x n h0 w
  · rw [Wd.bitI, if_neg h0]
    obtain ⟨k, rfl⟩ := Int.eq_ofNat_of_zero_le (show 0 ≤ n from by omega)
    exact wbit_c x k hn w
theorem rleftI_c (x : BitVec 128) (n : Int) (w : World) : Calls Try.prog 29 #[.agg #[.int .u64 ((Wd.hi x).toNat), .int .u64 ((Wd.lo x).toNat)], .int .i64 n] w fun e w' => e = .returned (.agg #[.int .u64 ((Wd.hi (x <<< n.toNat)).toNat), .int .u64 ((Wd.lo (x <<< n.toNat)).toNat)]) ∧ Below w.heap.size w w' := by
  rw [← Wd.shl_min]
  exact rleft_c x n _ rfl w
theorem By.Rd.lift {w w0 : World} {v : Value} {f : Nat → Nat} {len : Nat} (h : By.Rd w0 v f len) (hb : Below w0.heap.size w0 w) : By.Rd w v f len := By.Rd.below h hb
set_option maxRecDepth 100000 in
theorem wideTells_long (da db : BitVec 128) (n : Int) (hn1 : -9223372036854775808 ≤ n) (hn2 : n ≤ 9223372036854775807) (adp : Option Addr) (len capp : Nat) (hl : 100 < len) (w0 : World) : Calls Try.prog 6 #[.agg #[.int .u64 ((Wd.hi da).toNat), .int .u64 ((Wd.lo da).toNat)], .agg #[.int .u64 ((Wd.hi db).toNat), .int .u64 ((Wd.lo db).toNat)], .int .i64 n, .slice adp len capp] w0 fun e w' => e = .returned (.bool true) ∧ Below w0.heap.size w0 w' := by
  refine Sx.enter (args := [.agg #[.int .u64 ((Wd.hi da).toNat), .int .u64 ((Wd.lo da).toNat)], .agg #[.int .u64 ((Wd.hi db).toNat), .int .u64 ((Wd.lo db).toNat)], .int .i64 n, .slice adp len capp]) Try.func6 rfl Try.ntmps6 (Nat.le_of_ble_eq_true rfl) (fun A F => ?_)
  have H := Sx.Own.start w0
  refine Sx.seq (fun K1 hK1 => ?_)
  refine Sx.plain ?_
  refine Sx.sb F (Sx.d_box F H rfl rfl [.int .u64 ((Wd.hi da).toNat), .int .u64 ((Wd.lo da).toNat)] rfl) (Sx.wanted_none rfl _) rfl (by decide) (fun g1 A w F H => ?_)
  refine Sx.sb F (Sx.d_box F H rfl rfl [.int .u64 ((Wd.hi db).toNat), .int .u64 ((Wd.lo db).toNat)] rfl) (Sx.wanted_none rfl _) rfl (by decide) (fun g2 A w F H => ?_)
  refine Sx.sv F (Sx.d_move F (Or.inr rfl) rfl) (Sx.wanted_none rfl _) rfl (by decide) (fun A F => ?_)
  refine Sx.nil ?_
  refine hK1 _ _ ?_
  refine Sx.seq (fun K2 hK2 => ?_)
  refine Sx.seq (fun K3 hK3 => ?_)
  refine Sx.plain ?_
  refine Sx.sw F (Sx.d_call (vs := []) (v := .bool true) if_10 F H rfl rfl (awake01_c _)) (Sx.wanted_none rfl _) rfl (by decide) (fun A w F H => ?_)
  refine Sx.sv F (Sx.d_un (v := .bool false) F rfl rfl rfl) (Sx.wanted_none rfl _) rfl (by decide) (fun A F => ?_)
  refine Sx.nil ?_
  refine hK3 _ _ ?_
  refine Sx.condF F rfl ?_
  refine wp_skip ?_
  refine hK2 _ _ ?_
  refine Sx.seq (fun K4 hK4 => ?_)
  refine Sx.seq (fun K5 hK5 => ?_)
  refine Sx.plain ?_
  refine Sx.sv F (Sx.d_move F (Or.inl rfl) rfl) (Sx.wanted_none rfl _) rfl (by decide) (fun A F => ?_)
  refine Sx.sv F (Sx.d_lenS el_39 F rfl rfl) (Sx.wanted_none rfl _) rfl (by decide) (fun A F => ?_)
  refine Sx.sv F (Sx.d_bin (v := .bool true) F rfl rfl rfl (Sx.i_gt (decide_eq_true (by omega)))) (Sx.wanted_none rfl _) rfl (by decide) (fun A F => ?_)
  refine Sx.nil ?_
  refine hK5 _ _ ?_
  refine Sx.condT F rfl ?_
  refine Sx.seq (fun K6 hK6 => ?_)
  refine Sx.plain ?_
  refine Sx.sv F (Sx.d_move F (Or.inr rfl) rfl) (Sx.wanted_none rfl _) rfl (by decide) (fun A F => ?_)
  refine Sx.nil ?_
  refine hK6 _ _ ?_
  refine wp_ret ?_
  try dsimp only [Exit.then, Exit.inBlock, Exit.jump]
  refine Sx.ret1 F Try.results6 (Sx.res_tmp (v := .bool true) F rfl) ⟨?_, H.below⟩
  rfl
set_option maxHeartbeats 4000000 in
set_option maxRecDepth 100000 in
theorem wideTells_ok (da db : BitVec 128) (n : Int) (hn1 : -9223372036854775808 ≤ n) (hn2 : n ≤ 9223372036854775807) (adp : Option Addr) (capp : Nat) (f : Nat → Nat) (hf : ∀ k, f k < 256) (w0 : World) (hp : By.Rd w0 (.slice adp 16 capp) f 16) : Calls Try.prog 6 #[.agg #[.int .u64 ((Wd.hi da).toNat), .int .u64 ((Wd.lo da).toNat)], .agg #[.int .u64 ((Wd.hi db).toNat), .int .u64 ((Wd.lo db).toNat)], .int .i64 n, .slice adp 16 capp] w0 fun e w' => e = .returned (.bool true) ∧ Below w0.heap.size w0 w' := by
  refine Sx.enter (args := [.agg #[.int .u64 ((Wd.hi da).toNat), .int .u64 ((Wd.lo da).toNat)], .agg #[.int .u64 ((Wd.hi db).toNat), .int .u64 ((Wd.lo db).toNat)], .int .i64 n, .slice adp 16 capp]) Try.func6 rfl Try.ntmps6 (Nat.le_of_ble_eq_true rfl) (fun A F => ?_)
  have H := Sx.Own.start w0
  refine Sx.seq (fun K1 hK1 => ?_)
  refine Sx.plain ?_
  refine Sx.sb F (Sx.d_box F H rfl rfl [.int .u64 ((Wd.hi da).toNat), .int .u64 ((Wd.lo da).toNat)] rfl) (Sx.wanted_none rfl _) rfl (by decide) (fun g1 A w F H => ?_)
  refine Sx.sb F (Sx.d_box F H rfl rfl [.int .u64 ((Wd.hi db).toNat), .int .u64 ((Wd.lo db).toNat)] rfl) (Sx.wanted_none rfl _) rfl (by decide) (fun g2 A w F H => ?_)
  refine Sx.sv F (Sx.d_move F (Or.inr rfl) rfl) (Sx.wanted_none rfl _) rfl (by decide) (fun A F => ?_)
  refine Sx.nil ?_
  refine hK1 _ _ ?_
  refine Sx.seq (fun K2 hK2 => ?_)
  refine Sx.seq (fun K3 hK3 => ?_)
  refine Sx.plain ?_
  refine Sx.sw F (Sx.d_call (vs := []) (v := .bool true) if_10 F H rfl rfl (awake01_c _)) (Sx.wanted_none rfl _) rfl (by decide) (fun A w F H => ?_)
  refine Sx.sv F (Sx.d_un (v := .bool false) F rfl rfl rfl) (Sx.wanted_none rfl _) rfl (by decide) (fun A F => ?_)
  refine Sx.nil ?_
  refine hK3 _ _ ?_
  refine Sx.condF F rfl ?_
  refine wp_skip ?_
  refine hK2 _ _ ?_
  refine Sx.seq (fun K4 hK4 => ?_)
  refine Sx.seq (fun K5 hK5 => ?_)
  refine Sx.plain ?_
  refine Sx.sv F (Sx.d_move F (Or.inl rfl) rfl) (Sx.wanted_none rfl _) rfl (by decide) (fun A F => ?_)
  refine Sx.sv F (Sx.d_lenS el_39 F rfl rfl) (Sx.wanted_none rfl _) rfl (by decide) (fun A F => ?_)
  refine Sx.sv F (Sx.d_bin (v := .bool false) F rfl rfl rfl (Sx.i_gt (decide_eq_false (by omega)))) (Sx.wanted_none rfl _) rfl (by decide) (fun A F => ?_)
  refine Sx.nil ?_
  refine hK5 _ _ ?_
  refine Sx.condF F rfl ?_
  refine wp_skip ?_
  refine hK4 _ _ ?_
  refine Sx.seq (fun K6 hK6 => ?_)
  have F := Sx.Fr.to F (kv' := [(0, .agg #[.int .u64 ((Wd.hi da).toNat), .int .u64 ((Wd.lo da).toNat)]), (1, .agg #[.int .u64 ((Wd.hi db).toNat), .int .u64 ((Wd.lo db).toNat)]), (2, .int .i64 n), (3, .slice adp 16 capp), (4, .pointer (some ⟨g1, 0, none⟩)), (5, .pointer (some ⟨g2, 0, none⟩)), (8, .bool false), (23, .bool true), (24, .bool false), (25, .slice adp 16 capp), (26, .int .i64 16), (27, .bool false)]) ⟨rfl, rfl, rfl, rfl, rfl, rfl, rfl, rfl, rfl, rfl, rfl, rfl, trivial⟩
  refine Sx.drawn F (by kernel_rfl) (by kernel_rfl) (by kernel_rfl) [some (.agg #[.int .u64 ((Wd.hi da).toNat), .int .u64 ((Wd.lo da).toNat)]), some (.agg #[.int .u64 ((Wd.hi db).toNat), .int .u64 ((Wd.lo db).toNat)]), none, none, none, none] (fun L A w => ∃ g3 : Nat, ∃ g4 : Nat, (L 2 = true → A.eval (.tmp 9) = .pointer (some ⟨g3, 0, none⟩)) ∧ (L 3 = true → A.eval (.tmp 10) = .pointer (some ⟨g4, 0, none⟩)) ∧ Sx.Own w0 w [(true, g2, [.int .u64 ((Wd.hi db).toNat), .int .u64 ((Wd.lo db).toNat)]), (true, g1, [.int .u64 ((Wd.hi da).toNat), .int .u64 ((Wd.lo da).toNat)]), (L 2, g3, (cond (L 4) [.int .u64 ((Wd.hi da).toNat), .int .u64 ((Wd.lo da).toNat)] [.int .u64 ((Wd.hi 0#128).toNat), .int .u64 ((Wd.lo 0#128).toNat)])), (L 3, g4, (cond (L 5) [.int .u64 ((Wd.hi db).toNat), .int .u64 ((Wd.lo db).toNat)] [.int .u64 ((Wd.hi 0#128).toNat), .int .u64 ((Wd.lo 0#128).toNat)]))] []) ⟨0, 0, (fun h => by cases h), (fun h => by cases h), H.drew.pad [(false, 0, [.int .u64 ((Wd.hi 0#128).toNat), .int .u64 ((Wd.lo 0#128).toNat)]), (false, 0, [.int .u64 ((Wd.hi 0#128).toNat), .int .u64 ((Wd.lo 0#128).toNat)])] rfl [] rfl⟩ ?_ ?_
  · refine ⟨?_, ?_, ?_, ?_, ?_, ?_, trivial⟩
    · show Sx.StepAt _ _ _ _ _ _ _ 0
      intro L A w up hun hd F ⟨g3, g4, p2, p3, H⟩
      have f4 : L 4 = false := up 4 0 rfl hun
      have f5 : L 5 = false := up 5 0 rfl hun
      rw [f4, f5] at H
      have F := Sx.Fr.to F (kv' := [(4, .pointer (some ⟨g1, 0, none⟩))]) ⟨rfl, trivial⟩
      refine Sx.step_on rfl (Sx.d_load (i := 1) (xs := [.int .u64 ((Wd.hi da).toNat), .int .u64 ((Wd.lo da).toNat)]) rw_24 F H rfl rfl rfl rfl rfl) ?_
      rintro xv w' ⟨hx, rfl⟩
      exact ⟨(fun cv hc => hx.trans (Option.some.inj (Option.some.inj hc))), ⟨g3, g4, (fun h => (Sx.put_ne rfl _).trans (p2 h)), (fun h => (Sx.put_ne rfl _).trans (p3 h)), (by show Sx.Own _ _ _ _; rw [show Inv.add L 0 4 = false from f4, show Inv.add L 0 5 = false from f5]; exact H)⟩⟩
    · show Sx.StepAt _ _ _ _ _ _ _ 1
      intro L A w up hun hd F ⟨g3, g4, p2, p3, H⟩
      have f5 : L 5 = false := up 5 1 rfl hun
      rw [f5] at H
      have F := Sx.Fr.to F (kv' := [(5, .pointer (some ⟨g2, 0, none⟩))]) ⟨rfl, trivial⟩
      refine Sx.step_on rfl (Sx.d_load (i := 0) (xs := [.int .u64 ((Wd.hi db).toNat), .int .u64 ((Wd.lo db).toNat)]) rw_24 F H rfl rfl rfl rfl rfl) ?_
      rintro xv w' ⟨hx, rfl⟩
      exact ⟨(fun cv hc => hx.trans (Option.some.inj (Option.some.inj hc))), ⟨g3, g4, (fun h => (Sx.put_ne rfl _).trans (p2 h)), (fun h => (Sx.put_ne rfl _).trans (p3 h)), (by show Sx.Own _ _ _ _; rw [show Inv.add L 1 5 = false from f5]; exact H)⟩⟩
    · show Sx.StepAt _ _ _ _ _ _ _ 2
      intro L A w up hun hd F ⟨g3, g4, p2, p3, H⟩
      have f2 : L 2 = false := hun
      have f4 : L 4 = false := up 4 2 rfl hun
      have f5 : L 5 = false := up 5 2 rfl hun
      rw [f2, f4, f5] at H
      have F := Sx.Fr.to F (kv' := []) trivial
      refine Sx.step_on rfl (Sx.d_alloc_at H rfl 2 [.int .u64 ((Wd.hi 0#128).toNat), .int .u64 ((Wd.lo 0#128).toNat)] zero_43) ?_
      rintro xv w' ⟨g', hx, H⟩
      exact ⟨(fun cv hc => by have h := Option.some.inj hc; cases h), ⟨g', g4, (fun _ => (Sx.put_same F (by decide) _).trans hx), (fun h => (Sx.put_ne rfl _).trans (p3 h)), (by show Sx.Own _ _ _ _; rw [show Inv.add L 2 4 = false from f4, show Inv.add L 2 5 = false from f5]; exact H)⟩⟩
    · show Sx.StepAt _ _ _ _ _ _ _ 3
      intro L A w up hun hd F ⟨g3, g4, p2, p3, H⟩
      have f3 : L 3 = false := hun
      have f4 : L 4 = false := up 4 3 rfl hun
      have f5 : L 5 = false := up 5 3 rfl hun
      rw [f3, f4, f5] at H
      have F := Sx.Fr.to F (kv' := []) trivial
      refine Sx.step_on rfl (Sx.d_alloc_at H rfl 3 [.int .u64 ((Wd.hi 0#128).toNat), .int .u64 ((Wd.lo 0#128).toNat)] zero_43) ?_
      rintro xv w' ⟨g', hx, H⟩
      exact ⟨(fun cv hc => by have h := Option.some.inj hc; cases h), ⟨g3, g', (fun h => (Sx.put_ne rfl _).trans (p2 h)), (fun _ => (Sx.put_same F (by decide) _).trans hx), (by show Sx.Own _ _ _ _; rw [show Inv.add L 3 4 = false from f4, show Inv.add L 3 5 = false from f5]; exact H)⟩⟩
    · show Sx.StepAt _ _ _ _ _ _ _ 4
      intro L A w up hun hd F ⟨g3, g4, p2, p3, H⟩
      have t2 : L 2 = true := hd 2 rfl
      have t3 : L 3 = true := hd 3 rfl
      have f4 : L 4 = false := hun
      have f5 : L 5 = false := up 5 4 rfl hun
      rw [t2, t3, f4, f5] at H
      have F := Sx.Fr.to F (kv' := [(28, .agg #[.int .u64 ((Wd.hi da).toNat), .int .u64 ((Wd.lo da).toNat)])]) ⟨rfl, trivial⟩
      have F := Sx.Fr.add F (p2 t2)
      have F := Sx.Fr.add F (p3 t3)
      refine Sx.step_on rfl (Sx.d_store (i := 2) (xs := [.int .u64 ((Wd.hi da).toNat), .int .u64 ((Wd.lo da).toNat)]) (us := [.int .u64 ((Wd.hi da).toNat), .int .u64 ((Wd.lo da).toNat)]) sz_43 F H rfl rfl rfl rfl rfl rfl rfl (Nat.le_of_ble_eq_true rfl) rfl) ?_
      intro xv w' H
      exact ⟨(fun cv hc => by have h := Option.some.inj hc; cases h), ⟨g3, g4, p2, p3, (by show Sx.Own _ _ _ _; rw [show Inv.add L 4 2 = true from t2, show Inv.add L 4 3 = true from t3, show Inv.add L 4 5 = false from f5]; exact H)⟩⟩
    · show Sx.StepAt _ _ _ _ _ _ _ 5
      intro L A w up hun hd F ⟨g3, g4, p2, p3, H⟩
      have t2 : L 2 = true := hd 2 rfl
      have t3 : L 3 = true := hd 3 rfl
      have t4 : L 4 = true := hd 4 rfl
      have f5 : L 5 = false := hun
      rw [t2, t3, t4, f5] at H
      have F := Sx.Fr.to F (kv' := [(29, .agg #[.int .u64 ((Wd.hi db).toNat), .int .u64 ((Wd.lo db).toNat)])]) ⟨rfl, trivial⟩
      have F := Sx.Fr.add F (p2 t2)
      have F := Sx.Fr.add F (p3 t3)
      refine Sx.step_on rfl (Sx.d_store (i := 3) (xs := [.int .u64 ((Wd.hi db).toNat), .int .u64 ((Wd.lo db).toNat)]) (us := [.int .u64 ((Wd.hi db).toNat), .int .u64 ((Wd.lo db).toNat)]) sz_43 F H rfl rfl rfl rfl rfl rfl rfl (Nat.le_of_ble_eq_true rfl) rfl) ?_
      intro xv w' H
      exact ⟨(fun cv hc => by have h := Option.some.inj hc; cases h), ⟨g3, g4, p2, p3, (by show Sx.Own _ _ _ _; rw [show Inv.add L 5 2 = true from t2, show Inv.add L 5 3 = true from t3, show Inv.add L 5 4 = true from t4]; exact H)⟩⟩
  · intro L A w hL F ⟨g3, g4, p2, p3, H⟩
    have t2 : L 2 = true := hL 2 rfl
    have t3 : L 3 = true := hL 3 rfl
    have t4 : L 4 = true := hL 4 rfl
    have t5 : L 5 = true := hL 5 rfl
    rw [t2, t3, t4, t5] at H
    have F := Sx.Fr.add F (p2 t2)
    have F := Sx.Fr.add F (p3 t3)
    have F := Sx.Fr.to F (kv' := [(2, .int .i64 n), (3, .slice adp 16 capp), (4, .pointer (some ⟨g1, 0, none⟩)), (5, .pointer (some ⟨g2, 0, none⟩)), (8, .bool false), (9, .pointer (some ⟨g3, 0, none⟩)), (10, .pointer (some ⟨g4, 0, none⟩))]) ⟨rfl, rfl, rfl, rfl, rfl, rfl, rfl, trivial⟩
    refine hK6 _ _ ?_
    refine Sx.seq (fun K7 hK7 => ?_)
    refine Sx.plain ?_
    refine Sx.sv F (Sx.d_load (i := 1) (xs := [.int .u64 ((Wd.hi da).toNat), .int .u64 ((Wd.lo da).toNat)]) rw_24 F H rfl rfl rfl rfl rfl) (Sx.wanted_none rfl _) rfl (by decide) (fun A F => ?_)
    refine Sx.sv F (Sx.d_load (i := 0) (xs := [.int .u64 ((Wd.hi db).toNat), .int .u64 ((Wd.lo db).toNat)]) rw_24 F H rfl rfl rfl rfl rfl) (Sx.wanted_none rfl _) rfl (by decide) (fun A F => ?_)
    refine Sx.sw F (Sx.d_call (vs := [.agg #[.int .u64 ((Wd.hi da).toNat), .int .u64 ((Wd.lo da).toNat)], .agg #[.int .u64 ((Wd.hi db).toNat), .int .u64 ((Wd.lo db).toNat)]]) (v := .tuple #[.agg #[.int .u64 ((Wd.hi (da + db)).toNat), .int .u64 ((Wd.lo (da + db)).toNat)], .bool (Wd.over da db)]) if_11 F H rfl rfl (wadd_c da db _)) (Sx.wanted_none rfl _) rfl (by decide) (fun A w F H => ?_)
    refine Sx.sv F (Sx.d_move F (Or.inl rfl) rfl) (Sx.wanted_none rfl _) rfl (by decide) (fun A F => ?_)
    refine Sx.sv F (Sx.d_extract (v := .agg #[.int .u64 ((Wd.hi (da + db)).toNat), .int .u64 ((Wd.lo (da + db)).toNat)]) F rfl rfl rfl) (Sx.wanted_none rfl _) rfl (by decide) (fun A F => ?_)
    refine Sx.sv F (Sx.d_extract (v := .bool (Wd.over da db)) F rfl rfl rfl) (Sx.wanted_none rfl _) rfl (by decide) (fun A F => ?_)
    refine Sx.sb F (Sx.d_alloc H rfl [.int .u64 ((Wd.hi 0#128).toNat), .int .u64 ((Wd.lo 0#128).toNat)] zero_24) (Sx.wanted_none rfl _) rfl (by decide) (fun g5 A w F H => ?_)
    refine Sx.ss F (Sx.d_store (i := 0) (xs := [.int .u64 ((Wd.hi (da + db)).toNat), .int .u64 ((Wd.lo (da + db)).toNat)]) (us := [.int .u64 ((Wd.hi (da + db)).toNat), .int .u64 ((Wd.lo (da + db)).toNat)]) sz_24 F H rfl rfl rfl rfl rfl rfl rfl (Nat.le_of_ble_eq_true rfl) rfl) (Sx.wanted_none rfl _) rfl (fun A w F (H : Sx.Own w0 _ [(true, g5, [.int .u64 ((Wd.hi (da + db)).toNat), .int .u64 ((Wd.lo (da + db)).toNat)]), (true, g2, [.int .u64 ((Wd.hi db).toNat), .int .u64 ((Wd.lo db).toNat)]), (true, g1, [.int .u64 ((Wd.hi da).toNat), .int .u64 ((Wd.lo da).toNat)]), (true, g3, [.int .u64 ((Wd.hi da).toNat), .int .u64 ((Wd.lo da).toNat)]), (true, g4, [.int .u64 ((Wd.hi db).toNat), .int .u64 ((Wd.lo db).toNat)])] []) => ?_)
    refine Sx.sv F (Sx.d_move F (Or.inr rfl) rfl) (Sx.wanted_none rfl _) rfl (by decide) (fun A F => ?_)
    refine Sx.nil ?_
    refine hK7 _ _ ?_
    refine Sx.seq (fun K8 hK8 => ?_)
    refine Sx.plain ?_
    refine Sx.sv F (Sx.d_load (i := 3) (xs := [.int .u64 ((Wd.hi da).toNat), .int .u64 ((Wd.lo da).toNat)]) rw_43 F H rfl rfl rfl rfl rfl) (Sx.wanted_none rfl _) rfl (by decide) (fun A F => ?_)
    refine Sx.sv F (Sx.d_load (i := 4) (xs := [.int .u64 ((Wd.hi db).toNat), .int .u64 ((Wd.lo db).toNat)]) rw_43 F H rfl rfl rfl rfl rfl) (Sx.wanted_none rfl _) rfl (by decide) (fun A F => ?_)
    refine Sx.sw F (Sx.d_call (vs := [.agg #[.int .u64 ((Wd.hi da).toNat), .int .u64 ((Wd.lo da).toNat)], .agg #[.int .u64 ((Wd.hi db).toNat), .int .u64 ((Wd.lo db).toNat)]]) (v := .tuple #[.agg #[.int .u64 ((Wd.hi (da + db)).toNat), .int .u64 ((Wd.lo (da + db)).toNat)], .bool (Wd.over da db)]) if_23 F H rfl rfl (radd_c da db _)) (Sx.wanted_none rfl _) rfl (by decide) (fun A w F H => ?_)
    refine Sx.sv F (Sx.d_move F (Or.inl rfl) rfl) (Sx.wanted_none rfl _) rfl (by decide) (fun A F => ?_)
    refine Sx.sv F (Sx.d_extract (v := .agg #[.int .u64 ((Wd.hi (da + db)).toNat), .int .u64 ((Wd.lo (da + db)).toNat)]) F rfl rfl rfl) (Sx.wanted_none rfl _) rfl (by decide) (fun A F => ?_)
    refine Sx.sv F (Sx.d_extract (v := .bool (Wd.over da db)) F rfl rfl rfl) (Sx.wanted_none rfl _) rfl (by decide) (fun A F => ?_)
    refine Sx.sb F (Sx.d_alloc H rfl [.int .u64 ((Wd.hi 0#128).toNat), .int .u64 ((Wd.lo 0#128).toNat)] zero_43) (Sx.wanted_none rfl _) rfl (by decide) (fun g6 A w F H => ?_)
    refine Sx.ss F (Sx.d_store (i := 0) (xs := [.int .u64 ((Wd.hi (da + db)).toNat), .int .u64 ((Wd.lo (da + db)).toNat)]) (us := [.int .u64 ((Wd.hi (da + db)).toNat), .int .u64 ((Wd.lo (da + db)).toNat)]) sz_43 F H rfl rfl rfl rfl rfl rfl rfl (Nat.le_of_ble_eq_true rfl) rfl) (Sx.wanted_none rfl _) rfl (fun A w F (H : Sx.Own w0 _ [(true, g6, [.int .u64 ((Wd.hi (da + db)).toNat), .int .u64 ((Wd.lo (da + db)).toNat)]), (true, g5, [.int .u64 ((Wd.hi (da + db)).toNat), .int .u64 ((Wd.lo (da + db)).toNat)]), (true, g2, [.int .u64 ((Wd.hi db).toNat), .int .u64 ((Wd.lo db).toNat)]), (true, g1, [.int .u64 ((Wd.hi da).toNat), .int .u64 ((Wd.lo da).toNat)]), (true, g3, [.int .u64 ((Wd.hi da).toNat), .int .u64 ((Wd.lo da).toNat)]), (true, g4, [.int .u64 ((Wd.hi db).toNat), .int .u64 ((Wd.lo db).toNat)])] []) => ?_)
    refine Sx.sv F (Sx.d_move F (Or.inr rfl) rfl) (Sx.wanted_none rfl _) rfl (by decide) (fun A F => ?_)
    refine Sx.nil ?_
    refine hK8 _ _ ?_
    refine Sx.seq (fun K9 hK9 => ?_)
    refine Sx.plain ?_
    refine Sx.sv F (Sx.d_load (i := 3) (xs := [.int .u64 ((Wd.hi da).toNat), .int .u64 ((Wd.lo da).toNat)]) rw_24 F H rfl rfl rfl rfl rfl) (Sx.wanted_none rfl _) rfl (by decide) (fun A F => ?_)
    refine Sx.sv F (Sx.d_load (i := 2) (xs := [.int .u64 ((Wd.hi db).toNat), .int .u64 ((Wd.lo db).toNat)]) rw_24 F H rfl rfl rfl rfl rfl) (Sx.wanted_none rfl _) rfl (by decide) (fun A F => ?_)
    refine Sx.sw F (Sx.d_call (vs := [.agg #[.int .u64 ((Wd.hi da).toNat), .int .u64 ((Wd.lo da).toNat)], .agg #[.int .u64 ((Wd.hi db).toNat), .int .u64 ((Wd.lo db).toNat)]]) (v := .tuple #[.agg #[.int .u64 ((Wd.hi (da - db)).toNat), .int .u64 ((Wd.lo (da - db)).toNat)], .bool (Wd.less da db)]) if_12 F H rfl rfl (wsub_c da db _)) (Sx.wanted_none rfl _) rfl (by decide) (fun A w F H => ?_)
    refine Sx.sv F (Sx.d_move F (Or.inl rfl) rfl) (Sx.wanted_none rfl _) rfl (by decide) (fun A F => ?_)
    refine Sx.sv F (Sx.d_extract (v := .agg #[.int .u64 ((Wd.hi (da - db)).toNat), .int .u64 ((Wd.lo (da - db)).toNat)]) F rfl rfl rfl) (Sx.wanted_none rfl _) rfl (by decide) (fun A F => ?_)
    refine Sx.sv F (Sx.d_extract (v := .bool (Wd.less da db)) F rfl rfl rfl) (Sx.wanted_none rfl _) rfl (by decide) (fun A F => ?_)
    refine Sx.sb F (Sx.d_alloc H rfl [.int .u64 ((Wd.hi 0#128).toNat), .int .u64 ((Wd.lo 0#128).toNat)] zero_24) (Sx.wanted_none rfl _) rfl (by decide) (fun g7 A w F H => ?_)
    refine Sx.ss F (Sx.d_store (i := 0) (xs := [.int .u64 ((Wd.hi (da - db)).toNat), .int .u64 ((Wd.lo (da - db)).toNat)]) (us := [.int .u64 ((Wd.hi (da - db)).toNat), .int .u64 ((Wd.lo (da - db)).toNat)]) sz_24 F H rfl rfl rfl rfl rfl rfl rfl (Nat.le_of_ble_eq_true rfl) rfl) (Sx.wanted_none rfl _) rfl (fun A w F (H : Sx.Own w0 _ [(true, g7, [.int .u64 ((Wd.hi (da - db)).toNat), .int .u64 ((Wd.lo (da - db)).toNat)]), (true, g6, [.int .u64 ((Wd.hi (da + db)).toNat), .int .u64 ((Wd.lo (da + db)).toNat)]), (true, g5, [.int .u64 ((Wd.hi (da + db)).toNat), .int .u64 ((Wd.lo (da + db)).toNat)]), (true, g2, [.int .u64 ((Wd.hi db).toNat), .int .u64 ((Wd.lo db).toNat)]), (true, g1, [.int .u64 ((Wd.hi da).toNat), .int .u64 ((Wd.lo da).toNat)]), (true, g3, [.int .u64 ((Wd.hi da).toNat), .int .u64 ((Wd.lo da).toNat)]), (true, g4, [.int .u64 ((Wd.hi db).toNat), .int .u64 ((Wd.lo db).toNat)])] []) => ?_)
    refine Sx.sv F (Sx.d_move F (Or.inr rfl) rfl) (Sx.wanted_none rfl _) rfl (by decide) (fun A F => ?_)
    refine Sx.nil ?_
    refine hK9 _ _ ?_
    refine Sx.seq (fun K10 hK10 => ?_)
    refine Sx.plain ?_
    refine Sx.sv F (Sx.d_load (i := 5) (xs := [.int .u64 ((Wd.hi da).toNat), .int .u64 ((Wd.lo da).toNat)]) rw_43 F H rfl rfl rfl rfl rfl) (Sx.wanted_none rfl _) rfl (by decide) (fun A F => ?_)
    refine Sx.sv F (Sx.d_load (i := 6) (xs := [.int .u64 ((Wd.hi db).toNat), .int .u64 ((Wd.lo db).toNat)]) rw_43 F H rfl rfl rfl rfl rfl) (Sx.wanted_none rfl _) rfl (by decide) (fun A F => ?_)
    refine Sx.sw F (Sx.d_call (vs := [.agg #[.int .u64 ((Wd.hi da).toNat), .int .u64 ((Wd.lo da).toNat)], .agg #[.int .u64 ((Wd.hi db).toNat), .int .u64 ((Wd.lo db).toNat)]]) (v := .tuple #[.agg #[.int .u64 ((Wd.hi (da - db)).toNat), .int .u64 ((Wd.lo (da - db)).toNat)], .bool (Wd.less da db)]) if_24 F H rfl rfl (rsub_c da db _)) (Sx.wanted_none rfl _) rfl (by decide) (fun A w F H => ?_)
    refine Sx.sv F (Sx.d_move F (Or.inl rfl) rfl) (Sx.wanted_none rfl _) rfl (by decide) (fun A F => ?_)
    refine Sx.sv F (Sx.d_extract (v := .agg #[.int .u64 ((Wd.hi (da - db)).toNat), .int .u64 ((Wd.lo (da - db)).toNat)]) F rfl rfl rfl) (Sx.wanted_none rfl _) rfl (by decide) (fun A F => ?_)
    refine Sx.sv F (Sx.d_extract (v := .bool (Wd.less da db)) F rfl rfl rfl) (Sx.wanted_none rfl _) rfl (by decide) (fun A F => ?_)
    refine Sx.sb F (Sx.d_alloc H rfl [.int .u64 ((Wd.hi 0#128).toNat), .int .u64 ((Wd.lo 0#128).toNat)] zero_43) (Sx.wanted_none rfl _) rfl (by decide) (fun g8 A w F H => ?_)
    refine Sx.ss F (Sx.d_store (i := 0) (xs := [.int .u64 ((Wd.hi (da - db)).toNat), .int .u64 ((Wd.lo (da - db)).toNat)]) (us := [.int .u64 ((Wd.hi (da - db)).toNat), .int .u64 ((Wd.lo (da - db)).toNat)]) sz_43 F H rfl rfl rfl rfl rfl rfl rfl (Nat.le_of_ble_eq_true rfl) rfl) (Sx.wanted_none rfl _) rfl (fun A w F (H : Sx.Own w0 _ [(true, g8, [.int .u64 ((Wd.hi (da - db)).toNat), .int .u64 ((Wd.lo (da - db)).toNat)]), (true, g7, [.int .u64 ((Wd.hi (da - db)).toNat), .int .u64 ((Wd.lo (da - db)).toNat)]), (true, g6, [.int .u64 ((Wd.hi (da + db)).toNat), .int .u64 ((Wd.lo (da + db)).toNat)]), (true, g5, [.int .u64 ((Wd.hi (da + db)).toNat), .int .u64 ((Wd.lo (da + db)).toNat)]), (true, g2, [.int .u64 ((Wd.hi db).toNat), .int .u64 ((Wd.lo db).toNat)]), (true, g1, [.int .u64 ((Wd.hi da).toNat), .int .u64 ((Wd.lo da).toNat)]), (true, g3, [.int .u64 ((Wd.hi da).toNat), .int .u64 ((Wd.lo da).toNat)]), (true, g4, [.int .u64 ((Wd.hi db).toNat), .int .u64 ((Wd.lo db).toNat)])] []) => ?_)
    refine Sx.sv F (Sx.d_move F (Or.inr rfl) rfl) (Sx.wanted_none rfl _) rfl (by decide) (fun A F => ?_)
    refine Sx.nil ?_
    refine hK10 _ _ ?_
    refine Sx.seq (fun K11 hK11 => ?_)
    refine Sx.plain ?_
    refine Sx.sv F (Sx.d_move F (Or.inl rfl) rfl) (Sx.wanted_none rfl _) rfl (by decide) (fun A F => ?_)
    refine Sx.sw F (Sx.d_call (vs := [.slice adp 16 capp]) (v := .tuple #[.agg #[.int .u64 ((Wd.hi (By.val f 16)).toNat), .int .u64 ((Wd.lo (By.val f 16)).toNat)], .int .i64 0]) if_20 F H rfl rfl (wtake_ok f hf _ _ (By.Rd.lift hp H.below))) (Sx.wanted_none rfl _) rfl (by decide) (fun A w F H => ?_)
    refine Sx.sv F (Sx.d_move F (Or.inl rfl) rfl) (Sx.wanted_none rfl _) rfl (by decide) (fun A F => ?_)
    refine Sx.sv F (Sx.d_extract (v := .agg #[.int .u64 ((Wd.hi (By.val f 16)).toNat), .int .u64 ((Wd.lo (By.val f 16)).toNat)]) F rfl rfl rfl) (Sx.wanted_none rfl _) rfl (by decide) (fun A F => ?_)
    refine Sx.sv F (Sx.d_extract (v := .int .i64 0) F rfl rfl rfl) (Sx.wanted_none rfl _) rfl (by decide) (fun A F => ?_)
    refine Sx.sb F (Sx.d_alloc H rfl [.int .u64 ((Wd.hi 0#128).toNat), .int .u64 ((Wd.lo 0#128).toNat)] zero_24) (Sx.wanted_none rfl _) rfl (by decide) (fun g9 A w F H => ?_)
    refine Sx.ss F (Sx.d_store (i := 0) (xs := [.int .u64 ((Wd.hi (By.val f 16)).toNat), .int .u64 ((Wd.lo (By.val f 16)).toNat)]) (us := [.int .u64 ((Wd.hi (By.val f 16)).toNat), .int .u64 ((Wd.lo (By.val f 16)).toNat)]) sz_24 F H rfl rfl rfl rfl rfl rfl rfl (Nat.le_of_ble_eq_true rfl) rfl) (Sx.wanted_none rfl _) rfl (fun A w F (H : Sx.Own w0 _ [(true, g9, [.int .u64 ((Wd.hi (By.val f 16)).toNat), .int .u64 ((Wd.lo (By.val f 16)).toNat)]), (true, g8, [.int .u64 ((Wd.hi (da - db)).toNat), .int .u64 ((Wd.lo (da - db)).toNat)]), (true, g7, [.int .u64 ((Wd.hi (da - db)).toNat), .int .u64 ((Wd.lo (da - db)).toNat)]), (true, g6, [.int .u64 ((Wd.hi (da + db)).toNat), .int .u64 ((Wd.lo (da + db)).toNat)]), (true, g5, [.int .u64 ((Wd.hi (da + db)).toNat), .int .u64 ((Wd.lo (da + db)).toNat)]), (true, g2, [.int .u64 ((Wd.hi db).toNat), .int .u64 ((Wd.lo db).toNat)]), (true, g1, [.int .u64 ((Wd.hi da).toNat), .int .u64 ((Wd.lo da).toNat)]), (true, g3, [.int .u64 ((Wd.hi da).toNat), .int .u64 ((Wd.lo da).toNat)]), (true, g4, [.int .u64 ((Wd.hi db).toNat), .int .u64 ((Wd.lo db).toNat)])] []) => ?_)
    refine Sx.sv F (Sx.d_move F (Or.inr rfl) rfl) (Sx.wanted_none rfl _) rfl (by decide) (fun A F => ?_)
    refine Sx.nil ?_
    refine hK11 _ _ ?_
    refine Sx.seq (fun K12 hK12 => ?_)
    refine Sx.plain ?_
    refine Sx.sv F (Sx.d_move F (Or.inl rfl) rfl) (Sx.wanted_none rfl _) rfl (by decide) (fun A F => ?_)
    refine Sx.sw F (Sx.d_call (vs := [.slice adp 16 capp]) (v := .tuple #[.agg #[.int .u64 ((Wd.hi (By.val f 16)).toNat), .int .u64 ((Wd.lo (By.val f 16)).toNat)], .int .i64 0]) if_25 F H rfl rfl (rtake_ok f hf _ _ (By.Rd.lift hp H.below))) (Sx.wanted_none rfl _) rfl (by decide) (fun A w F H => ?_)
    refine Sx.sv F (Sx.d_move F (Or.inl rfl) rfl) (Sx.wanted_none rfl _) rfl (by decide) (fun A F => ?_)
    refine Sx.sv F (Sx.d_extract (v := .agg #[.int .u64 ((Wd.hi (By.val f 16)).toNat), .int .u64 ((Wd.lo (By.val f 16)).toNat)]) F rfl rfl rfl) (Sx.wanted_none rfl _) rfl (by decide) (fun A F => ?_)
    refine Sx.sv F (Sx.d_extract (v := .int .i64 0) F rfl rfl rfl) (Sx.wanted_none rfl _) rfl (by decide) (fun A F => ?_)
    refine Sx.sb F (Sx.d_alloc H rfl [.int .u64 ((Wd.hi 0#128).toNat), .int .u64 ((Wd.lo 0#128).toNat)] zero_43) (Sx.wanted_none rfl _) rfl (by decide) (fun g10 A w F H => ?_)
    refine Sx.ss F (Sx.d_store (i := 0) (xs := [.int .u64 ((Wd.hi (By.val f 16)).toNat), .int .u64 ((Wd.lo (By.val f 16)).toNat)]) (us := [.int .u64 ((Wd.hi (By.val f 16)).toNat), .int .u64 ((Wd.lo (By.val f 16)).toNat)]) sz_43 F H rfl rfl rfl rfl rfl rfl rfl (Nat.le_of_ble_eq_true rfl) rfl) (Sx.wanted_none rfl _) rfl (fun A w F (H : Sx.Own w0 _ [(true, g10, [.int .u64 ((Wd.hi (By.val f 16)).toNat), .int .u64 ((Wd.lo (By.val f 16)).toNat)]), (true, g9, [.int .u64 ((Wd.hi (By.val f 16)).toNat), .int .u64 ((Wd.lo (By.val f 16)).toNat)]), (true, g8, [.int .u64 ((Wd.hi (da - db)).toNat), .int .u64 ((Wd.lo (da - db)).toNat)]), (true, g7, [.int .u64 ((Wd.hi (da - db)).toNat), .int .u64 ((Wd.lo (da - db)).toNat)]), (true, g6, [.int .u64 ((Wd.hi (da + db)).toNat), .int .u64 ((Wd.lo (da + db)).toNat)]), (true, g5, [.int .u64 ((Wd.hi (da + db)).toNat), .int .u64 ((Wd.lo (da + db)).toNat)]), (true, g2, [.int .u64 ((Wd.hi db).toNat), .int .u64 ((Wd.lo db).toNat)]), (true, g1, [.int .u64 ((Wd.hi da).toNat), .int .u64 ((Wd.lo da).toNat)]), (true, g3, [.int .u64 ((Wd.hi da).toNat), .int .u64 ((Wd.lo da).toNat)]), (true, g4, [.int .u64 ((Wd.hi db).toNat), .int .u64 ((Wd.lo db).toNat)])] []) => ?_)
    refine Sx.sv F (Sx.d_move F (Or.inr rfl) rfl) (Sx.wanted_none rfl _) rfl (by decide) (fun A F => ?_)
    refine Sx.nil ?_
    refine hK12 _ _ ?_
    refine Sx.seq (fun K13 hK13 => ?_)
    refine Sx.seq (fun K14 hK14 => ?_)
    have F := Sx.Fr.to F (kv' := [(2, .int .i64 n), (3, .slice adp 16 capp), (4, .pointer (some ⟨g1, 0, none⟩)), (5, .pointer (some ⟨g2, 0, none⟩)), (8, .bool false), (9, .pointer (some ⟨g3, 0, none⟩)), (10, .pointer (some ⟨g4, 0, none⟩)), (31, .agg #[.int .u64 ((Wd.hi da).toNat), .int .u64 ((Wd.lo da).toNat)]), (32, .agg #[.int .u64 ((Wd.hi db).toNat), .int .u64 ((Wd.lo db).toNat)]), (33, .tuple #[.agg #[.int .u64 ((Wd.hi (da + db)).toNat), .int .u64 ((Wd.lo (da + db)).toNat)], .bool (Wd.over da db)]), (30, .tuple #[.agg #[.int .u64 ((Wd.hi (da + db)).toNat), .int .u64 ((Wd.lo (da + db)).toNat)], .bool (Wd.over da db)]), (34, .agg #[.int .u64 ((Wd.hi (da + db)).toNat), .int .u64 ((Wd.lo (da + db)).toNat)]), (35, .bool (Wd.over da db)), (11, .pointer (some ⟨g5, 0, none⟩)), (12, .bool (Wd.over da db)), (37, .agg #[.int .u64 ((Wd.hi da).toNat), .int .u64 ((Wd.lo da).toNat)]), (38, .agg #[.int .u64 ((Wd.hi db).toNat), .int .u64 ((Wd.lo db).toNat)]), (39, .tuple #[.agg #[.int .u64 ((Wd.hi (da + db)).toNat), .int .u64 ((Wd.lo (da + db)).toNat)], .bool (Wd.over da db)]), (36, .tuple #[.agg #[.int .u64 ((Wd.hi (da + db)).toNat), .int .u64 ((Wd.lo (da + db)).toNat)], .bool (Wd.over da db)]), (40, .agg #[.int .u64 ((Wd.hi (da + db)).toNat), .int .u64 ((Wd.lo (da + db)).toNat)]), (41, .bool (Wd.over da db)), (13, .pointer (some ⟨g6, 0, none⟩)), (14, .bool (Wd.over da db)), (43, .agg #[.int .u64 ((Wd.hi da).toNat), .int .u64 ((Wd.lo da).toNat)]), (44, .agg #[.int .u64 ((Wd.hi db).toNat), .int .u64 ((Wd.lo db).toNat)]), (45, .tuple #[.agg #[.int .u64 ((Wd.hi (da - db)).toNat), .int .u64 ((Wd.lo (da - db)).toNat)], .bool (Wd.less da db)]), (42, .tuple #[.agg #[.int .u64 ((Wd.hi (da - db)).toNat), .int .u64 ((Wd.lo (da - db)).toNat)], .bool (Wd.less da db)]), (46, .agg #[.int .u64 ((Wd.hi (da - db)).toNat), .int .u64 ((Wd.lo (da - db)).toNat)]), (47, .bool (Wd.less da db)), (15, .pointer (some ⟨g7, 0, none⟩)), (16, .bool (Wd.less da db)), (49, .agg #[.int .u64 ((Wd.hi da).toNat), .int .u64 ((Wd.lo da).toNat)]), (50, .agg #[.int .u64 ((Wd.hi db).toNat), .int .u64 ((Wd.lo db).toNat)]), (51, .tuple #[.agg #[.int .u64 ((Wd.hi (da - db)).toNat), .int .u64 ((Wd.lo (da - db)).toNat)], .bool (Wd.less da db)]), (48, .tuple #[.agg #[.int .u64 ((Wd.hi (da - db)).toNat), .int .u64 ((Wd.lo (da - db)).toNat)], .bool (Wd.less da db)]), (52, .agg #[.int .u64 ((Wd.hi (da - db)).toNat), .int .u64 ((Wd.lo (da - db)).toNat)]), (53, .bool (Wd.less da db)), (17, .pointer (some ⟨g8, 0, none⟩)), (18, .bool (Wd.less da db)), (55, .slice adp 16 capp), (56, .tuple #[.agg #[.int .u64 ((Wd.hi (By.val f 16)).toNat), .int .u64 ((Wd.lo (By.val f 16)).toNat)], .int .i64 0]), (54, .tuple #[.agg #[.int .u64 ((Wd.hi (By.val f 16)).toNat), .int .u64 ((Wd.lo (By.val f 16)).toNat)], .int .i64 0]), (57, .agg #[.int .u64 ((Wd.hi (By.val f 16)).toNat), .int .u64 ((Wd.lo (By.val f 16)).toNat)]), (58, .int .i64 0), (19, .pointer (some ⟨g9, 0, none⟩)), (20, .int .i64 0), (60, .slice adp 16 capp), (61, .tuple #[.agg #[.int .u64 ((Wd.hi (By.val f 16)).toNat), .int .u64 ((Wd.lo (By.val f 16)).toNat)], .int .i64 0]), (59, .tuple #[.agg #[.int .u64 ((Wd.hi (By.val f 16)).toNat), .int .u64 ((Wd.lo (By.val f 16)).toNat)], .int .i64 0]), (62, .agg #[.int .u64 ((Wd.hi (By.val f 16)).toNat), .int .u64 ((Wd.lo (By.val f 16)).toNat)]), (63, .int .i64 0), (21, .pointer (some ⟨g10, 0, none⟩)), (22, .int .i64 0)]) ⟨rfl, rfl, rfl, rfl, rfl, rfl, rfl, rfl, rfl, rfl, rfl, rfl, rfl, rfl, rfl, rfl, rfl, rfl, rfl, rfl, rfl, rfl, rfl, rfl, rfl, rfl, rfl, rfl, rfl, rfl, rfl, rfl, rfl, rfl, rfl, rfl, rfl, rfl, rfl, rfl, rfl, rfl, rfl, rfl, rfl, rfl, rfl, rfl, rfl, rfl, rfl, rfl, rfl, trivial⟩
    refine Sx.drawn F (by kernel_rfl) (by kernel_rfl) (by kernel_rfl) [some (.agg #[.int .u64 ((Wd.hi (da + db)).toNat), .int .u64 ((Wd.lo (da + db)).toNat)]), some (.agg #[.int .u64 ((Wd.hi (da + db)).toNat), .int .u64 ((Wd.lo (da + db)).toNat)]), some (.bool false), some (.bool false), some (.bool (Wd.over da db)), some (.bool (Wd.over da db)), some (.bool false), some (.bool false), some (.bool false), some (.agg #[.int .u64 ((Wd.hi (da - db)).toNat), .int .u64 ((Wd.lo (da - db)).toNat)]), some (.agg #[.int .u64 ((Wd.hi (da - db)).toNat), .int .u64 ((Wd.lo (da - db)).toNat)]), some (.bool false), some (.bool false), some (.bool false), some (.bool (Wd.less da db)), some (.bool (Wd.less da db)), some (.bool false), some (.bool false), some (.bool false), some (.agg #[.int .u64 ((Wd.hi (By.val f 16)).toNat), .int .u64 ((Wd.lo (By.val f 16)).toNat)]), some (.agg #[.int .u64 ((Wd.hi (By.val f 16)).toNat), .int .u64 ((Wd.lo (By.val f 16)).toNat)]), some (.bool false), some (.bool false), some (.bool false), some (.int .i64 0), some (.int .i64 0), some (.bool false), some (.bool false), some (.bool false), some (.agg #[.int .u64 ((Wd.hi da).toNat), .int .u64 ((Wd.lo da).toNat)]), some (.agg #[.int .u64 ((Wd.hi db).toNat), .int .u64 ((Wd.lo db).toNat)]), some (.int .i64 (Wd.cmp da db)), some (.agg #[.int .u64 ((Wd.hi da).toNat), .int .u64 ((Wd.lo da).toNat)]), some (.agg #[.int .u64 ((Wd.hi db).toNat), .int .u64 ((Wd.lo db).toNat)]), some (.int .i64 (Wd.cmp da db)), some (.bool false), some (.bool false), some (.bool false), some (.pointer (some ⟨g1, 1, none⟩)), some (.int .u64 ((Wd.lo da).toNat)), some (.agg #[.int .u64 ((Wd.hi (Wd.of (Wd.lo da))).toNat), .int .u64 ((Wd.lo (Wd.of (Wd.lo da))).toNat)]), some (.pointer (some ⟨g1, 1, none⟩)), some (.int .u64 ((Wd.lo da).toNat)), some (.agg #[.int .u64 ((Wd.hi (Wd.mk 0#64 (Wd.lo da))).toNat), .int .u64 ((Wd.lo (Wd.mk 0#64 (Wd.lo da))).toNat)]), some (.bool false), some (.bool false)] (fun L A w => Sx.Own w0 w [(true, g10, [.int .u64 ((Wd.hi (By.val f 16)).toNat), .int .u64 ((Wd.lo (By.val f 16)).toNat)]), (true, g9, [.int .u64 ((Wd.hi (By.val f 16)).toNat), .int .u64 ((Wd.lo (By.val f 16)).toNat)]), (true, g8, [.int .u64 ((Wd.hi (da - db)).toNat), .int .u64 ((Wd.lo (da - db)).toNat)]), (true, g7, [.int .u64 ((Wd.hi (da - db)).toNat), .int .u64 ((Wd.lo (da - db)).toNat)]), (true, g6, [.int .u64 ((Wd.hi (da + db)).toNat), .int .u64 ((Wd.lo (da + db)).toNat)]), (true, g5, [.int .u64 ((Wd.hi (da + db)).toNat), .int .u64 ((Wd.lo (da + db)).toNat)]), (true, g2, [.int .u64 ((Wd.hi db).toNat), .int .u64 ((Wd.lo db).toNat)]), (true, g1, [.int .u64 ((Wd.hi da).toNat), .int .u64 ((Wd.lo da).toNat)]), (true, g3, [.int .u64 ((Wd.hi da).toNat), .int .u64 ((Wd.lo da).toNat)]), (true, g4, [.int .u64 ((Wd.hi db).toNat), .int .u64 ((Wd.lo db).toNat)])] []) H.drew ?_ ?_
    · refine ⟨?_, ?_, ?_, ?_, ?_, ?_, ?_, ?_, ?_, ?_, ?_, ?_, ?_, ?_, ?_, ?_, ?_, ?_, ?_, ?_, ?_, ?_, ?_, ?_, ?_, ?_, ?_, ?_, ?_, ?_, ?_, ?_, ?_, ?_, ?_, ?_, ?_, ?_, ?_, ?_, ?_, ?_, ?_, ?_, ?_, ?_, trivial⟩
      · show Sx.StepAt _ _ _ _ _ _ _ 0
        intro L A w up hun hd F H
        have F := Sx.Fr.to F (kv' := [(11, .pointer (some ⟨g5, 0, none⟩))]) ⟨rfl, trivial⟩
        refine Sx.step_on rfl (Sx.d_load (i := 5) (xs := [.int .u64 ((Wd.hi (da + db)).toNat), .int .u64 ((Wd.lo (da + db)).toNat)]) rw_24 F H rfl rfl rfl rfl rfl) ?_
        rintro xv w' ⟨hx, rfl⟩
        exact ⟨(fun cv hc => hx.trans (Option.some.inj (Option.some.inj hc))), H⟩
      · show Sx.StepAt _ _ _ _ _ _ _ 1
        intro L A w up hun hd F H
        have F := Sx.Fr.to F (kv' := [(13, .pointer (some ⟨g6, 0, none⟩))]) ⟨rfl, trivial⟩
        refine Sx.step_on rfl (Sx.d_load (i := 4) (xs := [.int .u64 ((Wd.hi (da + db)).toNat), .int .u64 ((Wd.lo (da + db)).toNat)]) rw_43 F H rfl rfl rfl rfl rfl) ?_
        rintro xv w' ⟨hx, rfl⟩
        exact ⟨(fun cv hc => hx.trans (Option.some.inj (Option.some.inj hc))), H⟩
      · show Sx.StepAt _ _ _ _ _ _ _ 2
        intro L A w up hun hd F H
        have F := Sx.Fr.to F (kv' := [(64, .agg #[.int .u64 ((Wd.hi (da + db)).toNat), .int .u64 ((Wd.lo (da + db)).toNat)]), (65, .agg #[.int .u64 ((Wd.hi (da + db)).toNat), .int .u64 ((Wd.lo (da + db)).toNat)])]) ⟨rfl, rfl, trivial⟩
        refine Sx.step_on rfl (Sx.d_bin (v := .bool false) F rfl rfl rfl (Sx.i_neU (by rw [show Wd.eqb (da + db) (da + db) = true from eqb_self _] <;> rfl))) ?_
        rintro xv w' ⟨hx, rfl⟩
        exact ⟨(fun cv hc => hx.trans (Option.some.inj (Option.some.inj hc))), H⟩
      · show Sx.StepAt _ _ _ _ _ _ _ 3
        intro L A w up hun hd F H
        have F := Sx.Fr.to F (kv' := [(66, .bool false)]) ⟨rfl, trivial⟩
        refine Sx.step_on rfl (Sx.d_move F (Or.inl rfl) rfl) ?_
        rintro xv w' ⟨hx, rfl⟩
        exact ⟨(fun cv hc => hx.trans (Option.some.inj (Option.some.inj hc))), H⟩
      · show Sx.StepAt _ _ _ _ _ _ _ 4
        intro L A w up hun hd F H
        have F := Sx.Fr.to F (kv' := [(12, .bool (Wd.over da db)), (67, .bool false)]) ⟨rfl, rfl, trivial⟩
        refine Sx.step_ong rfl (Sx.guard_known (d := 67) (b := false) F rfl rfl) rfl (Sx.d_move F (Or.inl rfl) rfl) ?_
        rintro xv w' ⟨hx, rfl⟩
        exact ⟨(fun cv hc => hx.trans (Option.some.inj (Option.some.inj hc))), H⟩
      · show Sx.StepAt _ _ _ _ _ _ _ 5
        intro L A w up hun hd F H
        have F := Sx.Fr.to F (kv' := [(14, .bool (Wd.over da db)), (67, .bool false)]) ⟨rfl, rfl, trivial⟩
        refine Sx.step_ong rfl (Sx.guard_known (d := 67) (b := false) F rfl rfl) rfl (Sx.d_move F (Or.inl rfl) rfl) ?_
        rintro xv w' ⟨hx, rfl⟩
        exact ⟨(fun cv hc => hx.trans (Option.some.inj (Option.some.inj hc))), H⟩
      · show Sx.StepAt _ _ _ _ _ _ _ 6
        intro L A w up hun hd F H
        have F := Sx.Fr.to F (kv' := [(68, .bool (Wd.over da db)), (69, .bool (Wd.over da db)), (67, .bool false)]) ⟨rfl, rfl, rfl, trivial⟩
        refine Sx.step_ong rfl (Sx.guard_known (d := 67) (b := false) F rfl rfl) rfl (Sx.d_bin (v := .bool false) F rfl rfl rfl (Sx.b_ne (by simp))) ?_
        rintro xv w' ⟨hx, rfl⟩
        exact ⟨(fun cv hc => hx.trans (Option.some.inj (Option.some.inj hc))), H⟩
      · show Sx.StepAt _ _ _ _ _ _ _ 7
        intro L A w up hun hd F H
        have F := Sx.Fr.to F (kv' := [(67, .bool false), (70, .bool false)]) ⟨rfl, rfl, trivial⟩
        refine Sx.step_on rfl (Sx.d_pickF (v := .bool false) F rfl rfl rfl) ?_
        rintro xv w' ⟨hx, rfl⟩
        exact ⟨(fun cv hc => hx.trans (Option.some.inj (Option.some.inj hc))), H⟩
      · show Sx.StepAt _ _ _ _ _ _ _ 8
        intro L A w up hun hd F H
        have F := Sx.Fr.to F (kv' := [(71, .bool false)]) ⟨rfl, trivial⟩
        refine Sx.step_on rfl (Sx.d_move F (Or.inl rfl) rfl) ?_
        rintro xv w' ⟨hx, rfl⟩
        exact ⟨(fun cv hc => hx.trans (Option.some.inj (Option.some.inj hc))), H⟩
      · show Sx.StepAt _ _ _ _ _ _ _ 9
        intro L A w up hun hd F H
        have F := Sx.Fr.to F (kv' := [(15, .pointer (some ⟨g7, 0, none⟩)), (72, .bool false)]) ⟨rfl, rfl, trivial⟩
        refine Sx.step_ong rfl (Sx.guard_known (d := 72) (b := false) F rfl rfl) rfl (Sx.d_load (i := 3) (xs := [.int .u64 ((Wd.hi (da - db)).toNat), .int .u64 ((Wd.lo (da - db)).toNat)]) rw_24 F H rfl rfl rfl rfl rfl) ?_
        rintro xv w' ⟨hx, rfl⟩
        exact ⟨(fun cv hc => hx.trans (Option.some.inj (Option.some.inj hc))), H⟩
      · show Sx.StepAt _ _ _ _ _ _ _ 10
        intro L A w up hun hd F H
        have F := Sx.Fr.to F (kv' := [(17, .pointer (some ⟨g8, 0, none⟩)), (72, .bool false)]) ⟨rfl, rfl, trivial⟩
        refine Sx.step_ong rfl (Sx.guard_known (d := 72) (b := false) F rfl rfl) rfl (Sx.d_load (i := 2) (xs := [.int .u64 ((Wd.hi (da - db)).toNat), .int .u64 ((Wd.lo (da - db)).toNat)]) rw_43 F H rfl rfl rfl rfl rfl) ?_
        rintro xv w' ⟨hx, rfl⟩
        exact ⟨(fun cv hc => hx.trans (Option.some.inj (Option.some.inj hc))), H⟩
      · show Sx.StepAt _ _ _ _ _ _ _ 11
        intro L A w up hun hd F H
        have F := Sx.Fr.to F (kv' := [(73, .agg #[.int .u64 ((Wd.hi (da - db)).toNat), .int .u64 ((Wd.lo (da - db)).toNat)]), (74, .agg #[.int .u64 ((Wd.hi (da - db)).toNat), .int .u64 ((Wd.lo (da - db)).toNat)]), (72, .bool false)]) ⟨rfl, rfl, rfl, trivial⟩
        refine Sx.step_ong rfl (Sx.guard_known (d := 72) (b := false) F rfl rfl) rfl (Sx.d_bin (v := .bool false) F rfl rfl rfl (Sx.i_neU (by rw [show Wd.eqb (da - db) (da - db) = true from eqb_self _] <;> rfl))) ?_
        rintro xv w' ⟨hx, rfl⟩
        exact ⟨(fun cv hc => hx.trans (Option.some.inj (Option.some.inj hc))), H⟩
      · show Sx.StepAt _ _ _ _ _ _ _ 12
        intro L A w up hun hd F H
        have F := Sx.Fr.to F (kv' := [(72, .bool false), (75, .bool false)]) ⟨rfl, rfl, trivial⟩
        refine Sx.step_on rfl (Sx.d_pickF (v := .bool false) F rfl rfl rfl) ?_
        rintro xv w' ⟨hx, rfl⟩
        exact ⟨(fun cv hc => hx.trans (Option.some.inj (Option.some.inj hc))), H⟩
      · show Sx.StepAt _ _ _ _ _ _ _ 13
        intro L A w up hun hd F H
        have F := Sx.Fr.to F (kv' := [(76, .bool false)]) ⟨rfl, trivial⟩
        refine Sx.step_on rfl (Sx.d_move F (Or.inl rfl) rfl) ?_
        rintro xv w' ⟨hx, rfl⟩
        exact ⟨(fun cv hc => hx.trans (Option.some.inj (Option.some.inj hc))), H⟩
      · show Sx.StepAt _ _ _ _ _ _ _ 14
        intro L A w up hun hd F H
        have F := Sx.Fr.to F (kv' := [(16, .bool (Wd.less da db)), (77, .bool false)]) ⟨rfl, rfl, trivial⟩
        refine Sx.step_ong rfl (Sx.guard_known (d := 77) (b := false) F rfl rfl) rfl (Sx.d_move F (Or.inl rfl) rfl) ?_
        rintro xv w' ⟨hx, rfl⟩
        exact ⟨(fun cv hc => hx.trans (Option.some.inj (Option.some.inj hc))), H⟩
      · show Sx.StepAt _ _ _ _ _ _ _ 15
        intro L A w up hun hd F H
        have F := Sx.Fr.to F (kv' := [(18, .bool (Wd.less da db)), (77, .bool false)]) ⟨rfl, rfl, trivial⟩
        refine Sx.step_ong rfl (Sx.guard_known (d := 77) (b := false) F rfl rfl) rfl (Sx.d_move F (Or.inl rfl) rfl) ?_
        rintro xv w' ⟨hx, rfl⟩
        exact ⟨(fun cv hc => hx.trans (Option.some.inj (Option.some.inj hc))), H⟩
      · show Sx.StepAt _ _ _ _ _ _ _ 16
        intro L A w up hun hd F H
        have F := Sx.Fr.to F (kv' := [(78, .bool (Wd.less da db)), (79, .bool (Wd.less da db)), (77, .bool false)]) ⟨rfl, rfl, rfl, trivial⟩
        refine Sx.step_ong rfl (Sx.guard_known (d := 77) (b := false) F rfl rfl) rfl (Sx.d_bin (v := .bool false) F rfl rfl rfl (Sx.b_ne (by simp))) ?_
        rintro xv w' ⟨hx, rfl⟩
        exact ⟨(fun cv hc => hx.trans (Option.some.inj (Option.some.inj hc))), H⟩
      · show Sx.StepAt _ _ _ _ _ _ _ 17
        intro L A w up hun hd F H
        have F := Sx.Fr.to F (kv' := [(77, .bool false), (80, .bool false)]) ⟨rfl, rfl, trivial⟩
        refine Sx.step_on rfl (Sx.d_pickF (v := .bool false) F rfl rfl rfl) ?_
        rintro xv w' ⟨hx, rfl⟩
        exact ⟨(fun cv hc => hx.trans (Option.some.inj (Option.some.inj hc))), H⟩
      · show Sx.StepAt _ _ _ _ _ _ _ 18
        intro L A w up hun hd F H
        have F := Sx.Fr.to F (kv' := [(81, .bool false)]) ⟨rfl, trivial⟩
        refine Sx.step_on rfl (Sx.d_move F (Or.inl rfl) rfl) ?_
        rintro xv w' ⟨hx, rfl⟩
        exact ⟨(fun cv hc => hx.trans (Option.some.inj (Option.some.inj hc))), H⟩
      · show Sx.StepAt _ _ _ _ _ _ _ 19
        intro L A w up hun hd F H
        have F := Sx.Fr.to F (kv' := [(19, .pointer (some ⟨g9, 0, none⟩)), (82, .bool false)]) ⟨rfl, rfl, trivial⟩
        refine Sx.step_ong rfl (Sx.guard_known (d := 82) (b := false) F rfl rfl) rfl (Sx.d_load (i := 1) (xs := [.int .u64 ((Wd.hi (By.val f 16)).toNat), .int .u64 ((Wd.lo (By.val f 16)).toNat)]) rw_24 F H rfl rfl rfl rfl rfl) ?_
        rintro xv w' ⟨hx, rfl⟩
        exact ⟨(fun cv hc => hx.trans (Option.some.inj (Option.some.inj hc))), H⟩
      · show Sx.StepAt _ _ _ _ _ _ _ 20
        intro L A w up hun hd F H
        have F := Sx.Fr.to F (kv' := [(21, .pointer (some ⟨g10, 0, none⟩)), (82, .bool false)]) ⟨rfl, rfl, trivial⟩
        refine Sx.step_ong rfl (Sx.guard_known (d := 82) (b := false) F rfl rfl) rfl (Sx.d_load (i := 0) (xs := [.int .u64 ((Wd.hi (By.val f 16)).toNat), .int .u64 ((Wd.lo (By.val f 16)).toNat)]) rw_43 F H rfl rfl rfl rfl rfl) ?_
        rintro xv w' ⟨hx, rfl⟩
        exact ⟨(fun cv hc => hx.trans (Option.some.inj (Option.some.inj hc))), H⟩
      · show Sx.StepAt _ _ _ _ _ _ _ 21
        intro L A w up hun hd F H
        have F := Sx.Fr.to F (kv' := [(83, .agg #[.int .u64 ((Wd.hi (By.val f 16)).toNat), .int .u64 ((Wd.lo (By.val f 16)).toNat)]), (84, .agg #[.int .u64 ((Wd.hi (By.val f 16)).toNat), .int .u64 ((Wd.lo (By.val f 16)).toNat)]), (82, .bool false)]) ⟨rfl, rfl, rfl, trivial⟩
        refine Sx.step_ong rfl (Sx.guard_known (d := 82) (b := false) F rfl rfl) rfl (Sx.d_bin (v := .bool false) F rfl rfl rfl (Sx.i_neU (by rw [show Wd.eqb (By.val f 16) (By.val f 16) = true from eqb_self _] <;> rfl))) ?_
        rintro xv w' ⟨hx, rfl⟩
        exact ⟨(fun cv hc => hx.trans (Option.some.inj (Option.some.inj hc))), H⟩
      · show Sx.StepAt _ _ _ _ _ _ _ 22
        intro L A w up hun hd F H
        have F := Sx.Fr.to F (kv' := [(82, .bool false), (85, .bool false)]) ⟨rfl, rfl, trivial⟩
        refine Sx.step_on rfl (Sx.d_pickF (v := .bool false) F rfl rfl rfl) ?_
        rintro xv w' ⟨hx, rfl⟩
        exact ⟨(fun cv hc => hx.trans (Option.some.inj (Option.some.inj hc))), H⟩
      · show Sx.StepAt _ _ _ _ _ _ _ 23
        intro L A w up hun hd F H
        have F := Sx.Fr.to F (kv' := [(86, .bool false)]) ⟨rfl, trivial⟩
        refine Sx.step_on rfl (Sx.d_move F (Or.inl rfl) rfl) ?_
        rintro xv w' ⟨hx, rfl⟩
        exact ⟨(fun cv hc => hx.trans (Option.some.inj (Option.some.inj hc))), H⟩
      · show Sx.StepAt _ _ _ _ _ _ _ 24
        intro L A w up hun hd F H
        have F := Sx.Fr.to F (kv' := [(20, .int .i64 0), (87, .bool false)]) ⟨rfl, rfl, trivial⟩
        refine Sx.step_ong rfl (Sx.guard_known (d := 87) (b := false) F rfl rfl) rfl (Sx.d_move F (Or.inl rfl) rfl) ?_
        rintro xv w' ⟨hx, rfl⟩
        exact ⟨(fun cv hc => hx.trans (Option.some.inj (Option.some.inj hc))), H⟩
      · show Sx.StepAt _ _ _ _ _ _ _ 25
        intro L A w up hun hd F H
        have F := Sx.Fr.to F (kv' := [(22, .int .i64 0), (87, .bool false)]) ⟨rfl, rfl, trivial⟩
        refine Sx.step_ong rfl (Sx.guard_known (d := 87) (b := false) F rfl rfl) rfl (Sx.d_move F (Or.inl rfl) rfl) ?_
        rintro xv w' ⟨hx, rfl⟩
        exact ⟨(fun cv hc => hx.trans (Option.some.inj (Option.some.inj hc))), H⟩
      · show Sx.StepAt _ _ _ _ _ _ _ 26
        intro L A w up hun hd F H
        have F := Sx.Fr.to F (kv' := [(88, .int .i64 0), (89, .int .i64 0), (87, .bool false)]) ⟨rfl, rfl, rfl, trivial⟩
        refine Sx.step_ong rfl (Sx.guard_known (d := 87) (b := false) F rfl rfl) rfl (Sx.d_bin (v := .bool false) F rfl rfl rfl (Sx.i_ne (by decide))) ?_
        rintro xv w' ⟨hx, rfl⟩
        exact ⟨(fun cv hc => hx.trans (Option.some.inj (Option.some.inj hc))), H⟩
      · show Sx.StepAt _ _ _ _ _ _ _ 27
        intro L A w up hun hd F H
        have F := Sx.Fr.to F (kv' := [(87, .bool false), (90, .bool false)]) ⟨rfl, rfl, trivial⟩
        refine Sx.step_on rfl (Sx.d_pickF (v := .bool false) F rfl rfl rfl) ?_
        rintro xv w' ⟨hx, rfl⟩
        exact ⟨(fun cv hc => hx.trans (Option.some.inj (Option.some.inj hc))), H⟩
      · show Sx.StepAt _ _ _ _ _ _ _ 28
        intro L A w up hun hd F H
        have F := Sx.Fr.to F (kv' := [(91, .bool false)]) ⟨rfl, trivial⟩
        refine Sx.step_on rfl (Sx.d_move F (Or.inl rfl) rfl) ?_
        rintro xv w' ⟨hx, rfl⟩
        exact ⟨(fun cv hc => hx.trans (Option.some.inj (Option.some.inj hc))), H⟩
      · show Sx.StepAt _ _ _ _ _ _ _ 29
        intro L A w up hun hd F H
        have F := Sx.Fr.to F (kv' := [(4, .pointer (some ⟨g1, 0, none⟩)), (92, .bool false)]) ⟨rfl, rfl, trivial⟩
        refine Sx.step_ong rfl (Sx.guard_known (d := 92) (b := false) F rfl rfl) rfl (Sx.d_load (i := 7) (xs := [.int .u64 ((Wd.hi da).toNat), .int .u64 ((Wd.lo da).toNat)]) rw_24 F H rfl rfl rfl rfl rfl) ?_
        rintro xv w' ⟨hx, rfl⟩
        exact ⟨(fun cv hc => hx.trans (Option.some.inj (Option.some.inj hc))), H⟩
      · show Sx.StepAt _ _ _ _ _ _ _ 30
        intro L A w up hun hd F H
        have F := Sx.Fr.to F (kv' := [(5, .pointer (some ⟨g2, 0, none⟩)), (92, .bool false)]) ⟨rfl, rfl, trivial⟩
        refine Sx.step_ong rfl (Sx.guard_known (d := 92) (b := false) F rfl rfl) rfl (Sx.d_load (i := 6) (xs := [.int .u64 ((Wd.hi db).toNat), .int .u64 ((Wd.lo db).toNat)]) rw_24 F H rfl rfl rfl rfl rfl) ?_
        rintro xv w' ⟨hx, rfl⟩
        exact ⟨(fun cv hc => hx.trans (Option.some.inj (Option.some.inj hc))), H⟩
      · show Sx.StepAt _ _ _ _ _ _ _ 31
        intro L A w up hun hd F H
        have F := Sx.Fr.to F (kv' := [(93, .agg #[.int .u64 ((Wd.hi da).toNat), .int .u64 ((Wd.lo da).toNat)]), (94, .agg #[.int .u64 ((Wd.hi db).toNat), .int .u64 ((Wd.lo db).toNat)]), (92, .bool false)]) ⟨rfl, rfl, rfl, trivial⟩
        refine Sx.step_ong rfl (Sx.guard_known (d := 92) (b := false) F rfl rfl) rfl (Sx.d_call (vs := [.agg #[.int .u64 ((Wd.hi da).toNat), .int .u64 ((Wd.lo da).toNat)], .agg #[.int .u64 ((Wd.hi db).toNat), .int .u64 ((Wd.lo db).toNat)]]) (v := .int .i64 (Wd.cmp da db)) if_17 F H rfl rfl (wcmp_c da db _)) ?_
        rintro xv w' ⟨hx, H⟩
        exact ⟨(fun cv hc => hx.trans (Option.some.inj (Option.some.inj hc))), H⟩
      · show Sx.StepAt _ _ _ _ _ _ _ 32
        intro L A w up hun hd F H
        have F := Sx.Fr.to F (kv' := [(9, .pointer (some ⟨g3, 0, none⟩)), (92, .bool false)]) ⟨rfl, rfl, trivial⟩
        refine Sx.step_ong rfl (Sx.guard_known (d := 92) (b := false) F rfl rfl) rfl (Sx.d_load (i := 8) (xs := [.int .u64 ((Wd.hi da).toNat), .int .u64 ((Wd.lo da).toNat)]) rw_43 F H rfl rfl rfl rfl rfl) ?_
        rintro xv w' ⟨hx, rfl⟩
        exact ⟨(fun cv hc => hx.trans (Option.some.inj (Option.some.inj hc))), H⟩
      · show Sx.StepAt _ _ _ _ _ _ _ 33
        intro L A w up hun hd F H
        have F := Sx.Fr.to F (kv' := [(10, .pointer (some ⟨g4, 0, none⟩)), (92, .bool false)]) ⟨rfl, rfl, trivial⟩
        refine Sx.step_ong rfl (Sx.guard_known (d := 92) (b := false) F rfl rfl) rfl (Sx.d_load (i := 9) (xs := [.int .u64 ((Wd.hi db).toNat), .int .u64 ((Wd.lo db).toNat)]) rw_43 F H rfl rfl rfl rfl rfl) ?_
        rintro xv w' ⟨hx, rfl⟩
        exact ⟨(fun cv hc => hx.trans (Option.some.inj (Option.some.inj hc))), H⟩
      · show Sx.StepAt _ _ _ _ _ _ _ 34
        intro L A w up hun hd F H
        have F := Sx.Fr.to F (kv' := [(96, .agg #[.int .u64 ((Wd.hi da).toNat), .int .u64 ((Wd.lo da).toNat)]), (97, .agg #[.int .u64 ((Wd.hi db).toNat), .int .u64 ((Wd.lo db).toNat)]), (92, .bool false)]) ⟨rfl, rfl, rfl, trivial⟩
        refine Sx.step_ong rfl (Sx.guard_known (d := 92) (b := false) F rfl rfl) rfl (Sx.d_call (vs := [.agg #[.int .u64 ((Wd.hi da).toNat), .int .u64 ((Wd.lo da).toNat)], .agg #[.int .u64 ((Wd.hi db).toNat), .int .u64 ((Wd.lo db).toNat)]]) (v := .int .i64 (Wd.cmp da db)) if_26 F H rfl rfl (rcmp_c da db _)) ?_
        rintro xv w' ⟨hx, H⟩
        exact ⟨(fun cv hc => hx.trans (Option.some.inj (Option.some.inj hc))), H⟩
      · show Sx.StepAt _ _ _ _ _ _ _ 35
        intro L A w up hun hd F H
        have F := Sx.Fr.to F (kv' := [(95, .int .i64 (Wd.cmp da db)), (98, .int .i64 (Wd.cmp da db)), (92, .bool false)]) ⟨rfl, rfl, rfl, trivial⟩
        refine Sx.step_ong rfl (Sx.guard_known (d := 92) (b := false) F rfl rfl) rfl (Sx.d_bin (v := .bool false) F rfl rfl rfl (Sx.i_ne (by simp))) ?_
        rintro xv w' ⟨hx, rfl⟩
        exact ⟨(fun cv hc => hx.trans (Option.some.inj (Option.some.inj hc))), H⟩
      · show Sx.StepAt _ _ _ _ _ _ _ 36
        intro L A w up hun hd F H
        have F := Sx.Fr.to F (kv' := [(92, .bool false), (99, .bool false)]) ⟨rfl, rfl, trivial⟩
        refine Sx.step_on rfl (Sx.d_pickF (v := .bool false) F rfl rfl rfl) ?_
        rintro xv w' ⟨hx, rfl⟩
        exact ⟨(fun cv hc => hx.trans (Option.some.inj (Option.some.inj hc))), H⟩
      · show Sx.StepAt _ _ _ _ _ _ _ 37
        intro L A w up hun hd F H
        have F := Sx.Fr.to F (kv' := [(100, .bool false)]) ⟨rfl, trivial⟩
        refine Sx.step_on rfl (Sx.d_move F (Or.inl rfl) rfl) ?_
        rintro xv w' ⟨hx, rfl⟩
        exact ⟨(fun cv hc => hx.trans (Option.some.inj (Option.some.inj hc))), H⟩
      · show Sx.StepAt _ _ _ _ _ _ _ 38
        intro L A w up hun hd F H
        have F := Sx.Fr.to F (kv' := [(4, .pointer (some ⟨g1, 0, none⟩)), (101, .bool false)]) ⟨rfl, rfl, trivial⟩
        refine Sx.step_ong rfl (Sx.guard_known (d := 101) (b := false) F rfl rfl) rfl (Sx.d_faddr (v := .pointer (some ⟨g1, 1, none⟩)) F rfl rfl (fa_24_1 _ 0 _)) ?_
        rintro xv w' ⟨hx, rfl⟩
        exact ⟨(fun cv hc => hx.trans (Option.some.inj (Option.some.inj hc))), H⟩
      · show Sx.StepAt _ _ _ _ _ _ _ 39
        intro L A w up hun hd F H
        have F := Sx.Fr.to F (kv' := [(102, .pointer (some ⟨g1, 1, none⟩)), (101, .bool false)]) ⟨rfl, rfl, trivial⟩
        refine Sx.step_ong rfl (Sx.guard_known (d := 101) (b := false) F rfl rfl) rfl (Sx.d_load1 (i := 7) (v := .int .u64 ((Wd.lo da).toNat)) one_22 F H rfl rfl rfl rfl) ?_
        rintro xv w' ⟨hx, rfl⟩
        exact ⟨(fun cv hc => hx.trans (Option.some.inj (Option.some.inj hc))), H⟩
      · show Sx.StepAt _ _ _ _ _ _ _ 40
        intro L A w up hun hd F H
        have F := Sx.Fr.to F (kv' := [(103, .int .u64 ((Wd.lo da).toNat)), (101, .bool false)]) ⟨rfl, rfl, trivial⟩
        refine Sx.step_ong rfl (Sx.guard_known (d := 101) (b := false) F rfl rfl) rfl (Sx.d_call (vs := [.int .u64 ((Wd.lo da).toNat)]) (v := .agg #[.int .u64 ((Wd.hi (Wd.of (Wd.lo da))).toNat), .int .u64 ((Wd.lo (Wd.of (Wd.lo da))).toNat)]) if_14 F H rfl rfl (wofV_c (Wd.lo da) _)) ?_
        rintro xv w' ⟨hx, H⟩
        exact ⟨(fun cv hc => hx.trans (Option.some.inj (Option.some.inj hc))), H⟩
      · show Sx.StepAt _ _ _ _ _ _ _ 41
        intro L A w up hun hd F H
        have F := Sx.Fr.to F (kv' := [(4, .pointer (some ⟨g1, 0, none⟩)), (101, .bool false)]) ⟨rfl, rfl, trivial⟩
        refine Sx.step_ong rfl (Sx.guard_known (d := 101) (b := false) F rfl rfl) rfl (Sx.d_faddr (v := .pointer (some ⟨g1, 1, none⟩)) F rfl rfl (fa_24_1 _ 0 _)) ?_
        rintro xv w' ⟨hx, rfl⟩
        exact ⟨(fun cv hc => hx.trans (Option.some.inj (Option.some.inj hc))), H⟩
      · show Sx.StepAt _ _ _ _ _ _ _ 42
        intro L A w up hun hd F H
        have F := Sx.Fr.to F (kv' := [(105, .pointer (some ⟨g1, 1, none⟩)), (101, .bool false)]) ⟨rfl, rfl, trivial⟩
        refine Sx.step_ong rfl (Sx.guard_known (d := 101) (b := false) F rfl rfl) rfl (Sx.d_load1 (i := 7) (v := .int .u64 ((Wd.lo da).toNat)) one_22 F H rfl rfl rfl rfl) ?_
        rintro xv w' ⟨hx, rfl⟩
        exact ⟨(fun cv hc => hx.trans (Option.some.inj (Option.some.inj hc))), H⟩
      · show Sx.StepAt _ _ _ _ _ _ _ 43
        intro L A w up hun hd F H
        have F := Sx.Fr.to F (kv' := [(106, .int .u64 ((Wd.lo da).toNat)), (101, .bool false)]) ⟨rfl, rfl, trivial⟩
        refine Sx.step_ong rfl (Sx.guard_known (d := 101) (b := false) F rfl rfl) rfl (Sx.d_build (qs := #[(1, .int .u64 ((Wd.lo da).toNat))]) (v := .agg #[.int .u64 ((Wd.hi (Wd.mk 0#64 (Wd.lo da))).toNat), .int .u64 ((Wd.lo (Wd.mk 0#64 (Wd.lo da))).toNat)]) F rfl rfl (by rw [Wd.hi_mk, Wd.lo_mk]; kernel_rfl)) ?_
        rintro xv w' ⟨hx, rfl⟩
        exact ⟨(fun cv hc => hx.trans (Option.some.inj (Option.some.inj hc))), H⟩
      · show Sx.StepAt _ _ _ _ _ _ _ 44
        intro L A w up hun hd F H
        have F := Sx.Fr.to F (kv' := [(104, .agg #[.int .u64 ((Wd.hi (Wd.of (Wd.lo da))).toNat), .int .u64 ((Wd.lo (Wd.of (Wd.lo da))).toNat)]), (107, .agg #[.int .u64 ((Wd.hi (Wd.mk 0#64 (Wd.lo da))).toNat), .int .u64 ((Wd.lo (Wd.mk 0#64 (Wd.lo da))).toNat)]), (101, .bool false)]) ⟨rfl, rfl, rfl, trivial⟩
        refine Sx.step_ong rfl (Sx.guard_known (d := 101) (b := false) F rfl rfl) rfl (Sx.d_bin (v := .bool false) F rfl rfl rfl (Sx.i_neU (by rw [show Wd.eqb (Wd.of (Wd.lo da)) (Wd.mk 0#64 (Wd.lo da)) = true from decide_eq_true (rfl)] <;> rfl))) ?_
        rintro xv w' ⟨hx, rfl⟩
        exact ⟨(fun cv hc => hx.trans (Option.some.inj (Option.some.inj hc))), H⟩
      · show Sx.StepAt _ _ _ _ _ _ _ 45
        intro L A w up hun hd F H
        have F := Sx.Fr.to F (kv' := [(101, .bool false), (108, .bool false)]) ⟨rfl, rfl, trivial⟩
        refine Sx.step_on rfl (Sx.d_pickF (v := .bool false) F rfl rfl rfl) ?_
        rintro xv w' ⟨hx, rfl⟩
        exact ⟨(fun cv hc => hx.trans (Option.some.inj (Option.some.inj hc))), H⟩
    · intro L A w hL F H
      have F := Sx.Fr.to F (kv' := [(2, .int .i64 n), (4, .pointer (some ⟨g1, 0, none⟩)), (5, .pointer (some ⟨g2, 0, none⟩)), (8, .bool false), (9, .pointer (some ⟨g3, 0, none⟩)), (10, .pointer (some ⟨g4, 0, none⟩)), (109, .bool false)]) ⟨rfl, rfl, rfl, rfl, rfl, rfl, rfl, trivial⟩
      refine hK14 _ _ ?_
      refine Sx.condF F rfl ?_
      refine wp_skip ?_
      refine hK13 _ _ ?_
      refine Sx.seq (fun K15 hK15 => ?_)
      have F := Sx.Fr.to F (kv' := [(2, .int .i64 n), (4, .pointer (some ⟨g1, 0, none⟩)), (5, .pointer (some ⟨g2, 0, none⟩)), (9, .pointer (some ⟨g3, 0, none⟩)), (10, .pointer (some ⟨g4, 0, none⟩)), (109, .bool false)]) ⟨rfl, rfl, rfl, rfl, rfl, rfl, trivial⟩
      refine Sx.drawn F (by kernel_rfl) (by kernel_rfl) (by kernel_rfl) [some (.agg #[.int .u64 ((Wd.hi da).toNat), .int .u64 ((Wd.lo da).toNat)]), some (.agg #[.int .u64 ((Wd.hi db).toNat), .int .u64 ((Wd.lo db).toNat)]), some (.agg #[.int .u64 ((Wd.hi (da * db)).toNat), .int .u64 ((Wd.lo (da * db)).toNat)]), some (.agg #[.int .u64 ((Wd.hi da).toNat), .int .u64 ((Wd.lo da).toNat)]), some (.agg #[.int .u64 ((Wd.hi db).toNat), .int .u64 ((Wd.lo db).toNat)]), some (.agg #[.int .u64 ((Wd.hi (da * db)).toNat), .int .u64 ((Wd.lo (da * db)).toNat)]), some (.bool true), some (.bool true), some (.pointer (some ⟨g1, 1, none⟩)), some (.int .u64 ((Wd.lo da).toNat)), some (.pointer (some ⟨g2, 1, none⟩)), some (.int .u64 ((Wd.lo db).toNat)), some (.agg #[.int .u64 ((Wd.hi (Wd.full (Wd.lo da) (Wd.lo db))).toNat), .int .u64 ((Wd.lo (Wd.full (Wd.lo da) (Wd.lo db))).toNat)]), some (.pointer (some ⟨g1, 1, none⟩)), some (.int .u64 ((Wd.lo da).toNat)), some (.agg #[.int .u64 ((Wd.hi (Wd.mk 0#64 (Wd.lo da))).toNat), .int .u64 ((Wd.lo (Wd.mk 0#64 (Wd.lo da))).toNat)]), some (.pointer (some ⟨g2, 1, none⟩)), some (.int .u64 ((Wd.lo db).toNat)), some (.agg #[.int .u64 ((Wd.hi (Wd.mk 0#64 (Wd.lo db))).toNat), .int .u64 ((Wd.lo (Wd.mk 0#64 (Wd.lo db))).toNat)]), some (.agg #[.int .u64 ((Wd.hi ((Wd.mk 0#64 (Wd.lo da)) * (Wd.mk 0#64 (Wd.lo db)))).toNat), .int .u64 ((Wd.lo ((Wd.mk 0#64 (Wd.lo da)) * (Wd.mk 0#64 (Wd.lo db)))).toNat)]), some (.bool true), some (.bool true), some (.bool true), some (.agg #[.int .u64 ((Wd.hi da).toNat), .int .u64 ((Wd.lo da).toNat)]), some (.int .i64 n), some (.agg #[.int .u64 ((Wd.hi (da <<< n.toNat)).toNat), .int .u64 ((Wd.lo (da <<< n.toNat)).toNat)]), some (.agg #[.int .u64 ((Wd.hi da).toNat), .int .u64 ((Wd.lo da).toNat)]), some (.int .i64 n), some (.agg #[.int .u64 ((Wd.hi (da <<< n.toNat)).toNat), .int .u64 ((Wd.lo (da <<< n.toNat)).toNat)]), some (.bool true), some (.bool true), some (.bool true), some (.agg #[.int .u64 ((Wd.hi da).toNat), .int .u64 ((Wd.lo da).toNat)]), some (.int .i64 n), some (.agg #[.int .u64 ((Wd.hi (da >>> n.toNat)).toNat), .int .u64 ((Wd.lo (da >>> n.toNat)).toNat)]), some (.agg #[.int .u64 ((Wd.hi da).toNat), .int .u64 ((Wd.lo da).toNat)]), some (.int .i64 n), some (.agg #[.int .u64 ((Wd.hi (da >>> n.toNat)).toNat), .int .u64 ((Wd.lo (da >>> n.toNat)).toNat)]), some (.bool true), some (.bool true), some (.bool true), some (.agg #[.int .u64 ((Wd.hi da).toNat), .int .u64 ((Wd.lo da).toNat)]), some (.int .i64 (Bi.len da)), some (.agg #[.int .u64 ((Wd.hi da).toNat), .int .u64 ((Wd.lo da).toNat)]), some (.int .i64 (Bi.len da)), some (.bool true), some (.bool true), some (.bool true), some (.agg #[.int .u64 ((Wd.hi da).toNat), .int .u64 ((Wd.lo da).toNat)]), some (.int .i64 n), some (.int .i64 (Wd.bitI da n)), some (.agg #[.int .u64 ((Wd.hi da).toNat), .int .u64 ((Wd.lo da).toNat)]), some (.int .i64 n), some (.int .i64 (Wd.bitI da n)), some (.bool true), some (.bool true), some (.bool true), some (.agg #[.int .u64 ((Wd.hi da).toNat), .int .u64 ((Wd.lo da).toNat)]), none, some (.agg #[.int .u64 ((Wd.hi da).toNat), .int .u64 ((Wd.lo da).toNat)]), none, some (.bool true), some (.bool true), some (.bool true), some (.agg #[.int .u64 ((Wd.hi da).toNat), .int .u64 ((Wd.lo da).toNat)]), some (.string (Dg.str da.toNat)), some (.agg #[.int .u64 ((Wd.hi da).toNat), .int .u64 ((Wd.lo da).toNat)]), some (.string (Dg.str da.toNat)), some (.bool true), some (.bool true), some (.bool true)] (fun L A w => ∃ v1 : Value, ∃ v2 : Value, (L 58 = true → A.eval (.tmp 168) = v1) ∧ (L 60 = true → A.eval (.tmp 170) = v2) ∧ Sx.Own w0 w [(true, g10, [.int .u64 ((Wd.hi (By.val f 16)).toNat), .int .u64 ((Wd.lo (By.val f 16)).toNat)]), (true, g9, [.int .u64 ((Wd.hi (By.val f 16)).toNat), .int .u64 ((Wd.lo (By.val f 16)).toNat)]), (true, g8, [.int .u64 ((Wd.hi (da - db)).toNat), .int .u64 ((Wd.lo (da - db)).toNat)]), (true, g7, [.int .u64 ((Wd.hi (da - db)).toNat), .int .u64 ((Wd.lo (da - db)).toNat)]), (true, g6, [.int .u64 ((Wd.hi (da + db)).toNat), .int .u64 ((Wd.lo (da + db)).toNat)]), (true, g5, [.int .u64 ((Wd.hi (da + db)).toNat), .int .u64 ((Wd.lo (da + db)).toNat)]), (true, g2, [.int .u64 ((Wd.hi db).toNat), .int .u64 ((Wd.lo db).toNat)]), (true, g1, [.int .u64 ((Wd.hi da).toNat), .int .u64 ((Wd.lo da).toNat)]), (true, g3, [.int .u64 ((Wd.hi da).toNat), .int .u64 ((Wd.lo da).toNat)]), (true, g4, [.int .u64 ((Wd.hi db).toNat), .int .u64 ((Wd.lo db).toNat)])] [⟨L 58, v1, 5, 1, 16, (By.bys (By.put da) 16)⟩, ⟨L 60, v2, 5, 1, 16, (By.bys (By.put da) 16)⟩]) ⟨undef, undef, (fun h => by cases h), (fun h => by cases h), H.drew.pad [] rfl [⟨false, undef, 5, 1, 16, (By.bys (By.put da) 16)⟩, ⟨false, undef, 5, 1, 16, (By.bys (By.put da) 16)⟩] rfl⟩ ?_ ?_
      · refine ⟨?_, ?_, ?_, ?_, ?_, ?_, ?_, ?_, ?_, ?_, ?_, ?_, ?_, ?_, ?_, ?_, ?_, ?_, ?_, ?_, ?_, ?_, ?_, ?_, ?_, ?_, ?_, ?_, ?_, ?_, ?_, ?_, ?_, ?_, ?_, ?_, ?_, ?_, ?_, ?_, ?_, ?_, ?_, ?_, ?_, ?_, ?_, ?_, ?_, ?_, ?_, ?_, ?_, ?_, ?_, ?_, ?_, ?_, ?_, ?_, ?_, ?_, ?_, ?_, ?_, ?_, ?_, ?_, ?_, ?_, ?_, trivial⟩
        · show Sx.StepAt _ _ _ _ _ _ _ 0
          intro L A w up hun hd F ⟨v1, v2, p58, p60, H⟩
          have f2 : L 2 = false := up 2 0 rfl hun
          have f5 : L 5 = false := up 5 2 rfl f2
          have f7 : L 7 = false := up 7 5 rfl f5
          have f19 : L 19 = false := up 19 7 rfl f7
          have f22 : L 22 = false := up 22 19 rfl f19
          have f28 : L 28 = false := up 28 22 rfl f22
          have f31 : L 31 = false := up 31 28 rfl f28
          have f37 : L 37 = false := up 37 31 rfl f31
          have f40 : L 40 = false := up 40 37 rfl f37
          have f44 : L 44 = false := up 44 40 rfl f40
          have f47 : L 47 = false := up 47 44 rfl f44
          have f53 : L 53 = false := up 53 47 rfl f47
          have f56 : L 56 = false := up 56 53 rfl f53
          have f58 : L 58 = false := up 58 56 rfl f56
          have f60 : L 60 = false := up 60 56 rfl f56
          rw [f58, f60] at H
          have F := Sx.Fr.to F (kv' := [(4, .pointer (some ⟨g1, 0, none⟩))]) ⟨rfl, trivial⟩
          refine Sx.step_on rfl (Sx.d_load (i := 7) (xs := [.int .u64 ((Wd.hi da).toNat), .int .u64 ((Wd.lo da).toNat)]) rw_24 F H rfl rfl rfl rfl rfl) ?_
          rintro xv w' ⟨hx, rfl⟩
          exact ⟨(fun cv hc => hx.trans (Option.some.inj (Option.some.inj hc))), ⟨v1, v2, (fun h => absurd (show L 58 = true from h) (by rw [f58]; decide)), (fun h => absurd (show L 60 = true from h) (by rw [f60]; decide)), (by show Sx.Own _ _ _ _; rw [show Inv.add L 0 58 = false from f58, show Inv.add L 0 60 = false from f60]; exact H)⟩⟩
        · show Sx.StepAt _ _ _ _ _ _ _ 1
          intro L A w up hun hd F ⟨v1, v2, p58, p60, H⟩
          have f2 : L 2 = false := up 2 1 rfl hun
          have f5 : L 5 = false := up 5 2 rfl f2
          have f7 : L 7 = false := up 7 5 rfl f5
          have f19 : L 19 = false := up 19 7 rfl f7
          have f22 : L 22 = false := up 22 19 rfl f19
          have f28 : L 28 = false := up 28 22 rfl f22
          have f31 : L 31 = false := up 31 28 rfl f28
          have f37 : L 37 = false := up 37 31 rfl f31
          have f40 : L 40 = false := up 40 37 rfl f37
          have f44 : L 44 = false := up 44 40 rfl f40
          have f47 : L 47 = false := up 47 44 rfl f44
          have f53 : L 53 = false := up 53 47 rfl f47
          have f56 : L 56 = false := up 56 53 rfl f53
          have f58 : L 58 = false := up 58 56 rfl f56
          have f60 : L 60 = false := up 60 56 rfl f56
          rw [f58, f60] at H
          have F := Sx.Fr.to F (kv' := [(5, .pointer (some ⟨g2, 0, none⟩))]) ⟨rfl, trivial⟩
          refine Sx.step_on rfl (Sx.d_load (i := 6) (xs := [.int .u64 ((Wd.hi db).toNat), .int .u64 ((Wd.lo db).toNat)]) rw_24 F H rfl rfl rfl rfl rfl) ?_
          rintro xv w' ⟨hx, rfl⟩
          exact ⟨(fun cv hc => hx.trans (Option.some.inj (Option.some.inj hc))), ⟨v1, v2, (fun h => absurd (show L 58 = true from h) (by rw [f58]; decide)), (fun h => absurd (show L 60 = true from h) (by rw [f60]; decide)), (by show Sx.Own _ _ _ _; rw [show Inv.add L 1 58 = false from f58, show Inv.add L 1 60 = false from f60]; exact H)⟩⟩
        · show Sx.StepAt _ _ _ _ _ _ _ 2
          intro L A w up hun hd F ⟨v1, v2, p58, p60, H⟩
          have f5 : L 5 = false := up 5 2 rfl hun
          have f7 : L 7 = false := up 7 5 rfl f5
          have f19 : L 19 = false := up 19 7 rfl f7
          have f22 : L 22 = false := up 22 19 rfl f19
          have f28 : L 28 = false := up 28 22 rfl f22
          have f31 : L 31 = false := up 31 28 rfl f28
          have f37 : L 37 = false := up 37 31 rfl f31
          have f40 : L 40 = false := up 40 37 rfl f37
          have f44 : L 44 = false := up 44 40 rfl f40
          have f47 : L 47 = false := up 47 44 rfl f44
          have f53 : L 53 = false := up 53 47 rfl f47
          have f56 : L 56 = false := up 56 53 rfl f53
          have f58 : L 58 = false := up 58 56 rfl f56
          have f60 : L 60 = false := up 60 56 rfl f56
          rw [f58, f60] at H
          have F := Sx.Fr.to F (kv' := [(110, .agg #[.int .u64 ((Wd.hi da).toNat), .int .u64 ((Wd.lo da).toNat)]), (111, .agg #[.int .u64 ((Wd.hi db).toNat), .int .u64 ((Wd.lo db).toNat)])]) ⟨rfl, rfl, trivial⟩
          refine Sx.step_on rfl (Sx.d_call (vs := [.agg #[.int .u64 ((Wd.hi da).toNat), .int .u64 ((Wd.lo da).toNat)], .agg #[.int .u64 ((Wd.hi db).toNat), .int .u64 ((Wd.lo db).toNat)]]) (v := .agg #[.int .u64 ((Wd.hi (da * db)).toNat), .int .u64 ((Wd.lo (da * db)).toNat)]) if_13 F H rfl rfl (wmul_c da db _)) ?_
          rintro xv w' ⟨hx, H⟩
          exact ⟨(fun cv hc => hx.trans (Option.some.inj (Option.some.inj hc))), ⟨v1, v2, (fun h => absurd (show L 58 = true from h) (by rw [f58]; decide)), (fun h => absurd (show L 60 = true from h) (by rw [f60]; decide)), (by show Sx.Own _ _ _ _; rw [show Inv.add L 2 58 = false from f58, show Inv.add L 2 60 = false from f60]; exact H)⟩⟩
        · show Sx.StepAt _ _ _ _ _ _ _ 3
          intro L A w up hun hd F ⟨v1, v2, p58, p60, H⟩
          have f5 : L 5 = false := up 5 3 rfl hun
          have f7 : L 7 = false := up 7 5 rfl f5
          have f19 : L 19 = false := up 19 7 rfl f7
          have f22 : L 22 = false := up 22 19 rfl f19
          have f28 : L 28 = false := up 28 22 rfl f22
          have f31 : L 31 = false := up 31 28 rfl f28
          have f37 : L 37 = false := up 37 31 rfl f31
          have f40 : L 40 = false := up 40 37 rfl f37
          have f44 : L 44 = false := up 44 40 rfl f40
          have f47 : L 47 = false := up 47 44 rfl f44
          have f53 : L 53 = false := up 53 47 rfl f47
          have f56 : L 56 = false := up 56 53 rfl f53
          have f58 : L 58 = false := up 58 56 rfl f56
          have f60 : L 60 = false := up 60 56 rfl f56
          rw [f58, f60] at H
          have F := Sx.Fr.to F (kv' := [(9, .pointer (some ⟨g3, 0, none⟩))]) ⟨rfl, trivial⟩
          refine Sx.step_on rfl (Sx.d_load (i := 8) (xs := [.int .u64 ((Wd.hi da).toNat), .int .u64 ((Wd.lo da).toNat)]) rw_43 F H rfl rfl rfl rfl rfl) ?_
          rintro xv w' ⟨hx, rfl⟩
          exact ⟨(fun cv hc => hx.trans (Option.some.inj (Option.some.inj hc))), ⟨v1, v2, (fun h => absurd (show L 58 = true from h) (by rw [f58]; decide)), (fun h => absurd (show L 60 = true from h) (by rw [f60]; decide)), (by show Sx.Own _ _ _ _; rw [show Inv.add L 3 58 = false from f58, show Inv.add L 3 60 = false from f60]; exact H)⟩⟩
        · show Sx.StepAt _ _ _ _ _ _ _ 4
          intro L A w up hun hd F ⟨v1, v2, p58, p60, H⟩
          have f5 : L 5 = false := up 5 4 rfl hun
          have f7 : L 7 = false := up 7 5 rfl f5
          have f19 : L 19 = false := up 19 7 rfl f7
          have f22 : L 22 = false := up 22 19 rfl f19
          have f28 : L 28 = false := up 28 22 rfl f22
          have f31 : L 31 = false := up 31 28 rfl f28
          have f37 : L 37 = false := up 37 31 rfl f31
          have f40 : L 40 = false := up 40 37 rfl f37
          have f44 : L 44 = false := up 44 40 rfl f40
          have f47 : L 47 = false := up 47 44 rfl f44
          have f53 : L 53 = false := up 53 47 rfl f47
          have f56 : L 56 = false := up 56 53 rfl f53
          have f58 : L 58 = false := up 58 56 rfl f56
          have f60 : L 60 = false := up 60 56 rfl f56
          rw [f58, f60] at H
          have F := Sx.Fr.to F (kv' := [(10, .pointer (some ⟨g4, 0, none⟩))]) ⟨rfl, trivial⟩
          refine Sx.step_on rfl (Sx.d_load (i := 9) (xs := [.int .u64 ((Wd.hi db).toNat), .int .u64 ((Wd.lo db).toNat)]) rw_43 F H rfl rfl rfl rfl rfl) ?_
          rintro xv w' ⟨hx, rfl⟩
          exact ⟨(fun cv hc => hx.trans (Option.some.inj (Option.some.inj hc))), ⟨v1, v2, (fun h => absurd (show L 58 = true from h) (by rw [f58]; decide)), (fun h => absurd (show L 60 = true from h) (by rw [f60]; decide)), (by show Sx.Own _ _ _ _; rw [show Inv.add L 4 58 = false from f58, show Inv.add L 4 60 = false from f60]; exact H)⟩⟩
        · show Sx.StepAt _ _ _ _ _ _ _ 5
          intro L A w up hun hd F ⟨v1, v2, p58, p60, H⟩
          have f7 : L 7 = false := up 7 5 rfl hun
          have f19 : L 19 = false := up 19 7 rfl f7
          have f22 : L 22 = false := up 22 19 rfl f19
          have f28 : L 28 = false := up 28 22 rfl f22
          have f31 : L 31 = false := up 31 28 rfl f28
          have f37 : L 37 = false := up 37 31 rfl f31
          have f40 : L 40 = false := up 40 37 rfl f37
          have f44 : L 44 = false := up 44 40 rfl f40
          have f47 : L 47 = false := up 47 44 rfl f44
          have f53 : L 53 = false := up 53 47 rfl f47
          have f56 : L 56 = false := up 56 53 rfl f53
          have f58 : L 58 = false := up 58 56 rfl f56
          have f60 : L 60 = false := up 60 56 rfl f56
          rw [f58, f60] at H
          have F := Sx.Fr.to F (kv' := [(113, .agg #[.int .u64 ((Wd.hi da).toNat), .int .u64 ((Wd.lo da).toNat)]), (114, .agg #[.int .u64 ((Wd.hi db).toNat), .int .u64 ((Wd.lo db).toNat)])]) ⟨rfl, rfl, trivial⟩
          refine Sx.step_on rfl (Sx.d_call (vs := [.agg #[.int .u64 ((Wd.hi da).toNat), .int .u64 ((Wd.lo da).toNat)], .agg #[.int .u64 ((Wd.hi db).toNat), .int .u64 ((Wd.lo db).toNat)]]) (v := .agg #[.int .u64 ((Wd.hi (da * db)).toNat), .int .u64 ((Wd.lo (da * db)).toNat)]) if_27 F H rfl rfl (rmul_c da db _)) ?_
          rintro xv w' ⟨hx, H⟩
          exact ⟨(fun cv hc => hx.trans (Option.some.inj (Option.some.inj hc))), ⟨v1, v2, (fun h => absurd (show L 58 = true from h) (by rw [f58]; decide)), (fun h => absurd (show L 60 = true from h) (by rw [f60]; decide)), (by show Sx.Own _ _ _ _; rw [show Inv.add L 5 58 = false from f58, show Inv.add L 5 60 = false from f60]; exact H)⟩⟩
        · show Sx.StepAt _ _ _ _ _ _ _ 6
          intro L A w up hun hd F ⟨v1, v2, p58, p60, H⟩
          have f7 : L 7 = false := up 7 6 rfl hun
          have f19 : L 19 = false := up 19 7 rfl f7
          have f22 : L 22 = false := up 22 19 rfl f19
          have f28 : L 28 = false := up 28 22 rfl f22
          have f31 : L 31 = false := up 31 28 rfl f28
          have f37 : L 37 = false := up 37 31 rfl f31
          have f40 : L 40 = false := up 40 37 rfl f37
          have f44 : L 44 = false := up 44 40 rfl f40
          have f47 : L 47 = false := up 47 44 rfl f44
          have f53 : L 53 = false := up 53 47 rfl f47
          have f56 : L 56 = false := up 56 53 rfl f53
          have f58 : L 58 = false := up 58 56 rfl f56
          have f60 : L 60 = false := up 60 56 rfl f56
          rw [f58, f60] at H
          have F := Sx.Fr.to F (kv' := [(112, .agg #[.int .u64 ((Wd.hi (da * db)).toNat), .int .u64 ((Wd.lo (da * db)).toNat)]), (115, .agg #[.int .u64 ((Wd.hi (da * db)).toNat), .int .u64 ((Wd.lo (da * db)).toNat)])]) ⟨rfl, rfl, trivial⟩
          refine Sx.step_on rfl (Sx.d_bin (v := .bool true) F rfl rfl rfl (Sx.i_eqU (eqb_self _))) ?_
          rintro xv w' ⟨hx, rfl⟩
          exact ⟨(fun cv hc => hx.trans (Option.some.inj (Option.some.inj hc))), ⟨v1, v2, (fun h => absurd (show L 58 = true from h) (by rw [f58]; decide)), (fun h => absurd (show L 60 = true from h) (by rw [f60]; decide)), (by show Sx.Own _ _ _ _; rw [show Inv.add L 6 58 = false from f58, show Inv.add L 6 60 = false from f60]; exact H)⟩⟩
        · show Sx.StepAt _ _ _ _ _ _ _ 7
          intro L A w up hun hd F ⟨v1, v2, p58, p60, H⟩
          have f19 : L 19 = false := up 19 7 rfl hun
          have f22 : L 22 = false := up 22 19 rfl f19
          have f28 : L 28 = false := up 28 22 rfl f22
          have f31 : L 31 = false := up 31 28 rfl f28
          have f37 : L 37 = false := up 37 31 rfl f31
          have f40 : L 40 = false := up 40 37 rfl f37
          have f44 : L 44 = false := up 44 40 rfl f40
          have f47 : L 47 = false := up 47 44 rfl f44
          have f53 : L 53 = false := up 53 47 rfl f47
          have f56 : L 56 = false := up 56 53 rfl f53
          have f58 : L 58 = false := up 58 56 rfl f56
          have f60 : L 60 = false := up 60 56 rfl f56
          rw [f58, f60] at H
          have F := Sx.Fr.to F (kv' := [(116, .bool true)]) ⟨rfl, trivial⟩
          refine Sx.step_on rfl (Sx.d_move F (Or.inl rfl) rfl) ?_
          rintro xv w' ⟨hx, rfl⟩
          exact ⟨(fun cv hc => hx.trans (Option.some.inj (Option.some.inj hc))), ⟨v1, v2, (fun h => absurd (show L 58 = true from h) (by rw [f58]; decide)), (fun h => absurd (show L 60 = true from h) (by rw [f60]; decide)), (by show Sx.Own _ _ _ _; rw [show Inv.add L 7 58 = false from f58, show Inv.add L 7 60 = false from f60]; exact H)⟩⟩
        · show Sx.StepAt _ _ _ _ _ _ _ 8
          intro L A w up hun hd F ⟨v1, v2, p58, p60, H⟩
          have f9 : L 9 = false := up 9 8 rfl hun
          have f12 : L 12 = false := up 12 9 rfl f9
          have f19 : L 19 = false := up 19 12 rfl f12
          have f22 : L 22 = false := up 22 19 rfl f19
          have f28 : L 28 = false := up 28 22 rfl f22
          have f31 : L 31 = false := up 31 28 rfl f28
          have f37 : L 37 = false := up 37 31 rfl f31
          have f40 : L 40 = false := up 40 37 rfl f37
          have f44 : L 44 = false := up 44 40 rfl f40
          have f47 : L 47 = false := up 47 44 rfl f44
          have f53 : L 53 = false := up 53 47 rfl f47
          have f56 : L 56 = false := up 56 53 rfl f53
          have f58 : L 58 = false := up 58 56 rfl f56
          have f60 : L 60 = false := up 60 56 rfl f56
          rw [f58, f60] at H
          have F := Sx.Fr.to F (kv' := [(4, .pointer (some ⟨g1, 0, none⟩)), (117, .bool true)]) ⟨rfl, rfl, trivial⟩
          refine Sx.step_ong rfl (Sx.guard_known (d := 117) (b := true) F rfl rfl) rfl (Sx.d_faddr (v := .pointer (some ⟨g1, 1, none⟩)) F rfl rfl (fa_24_1 _ 0 _)) ?_
          rintro xv w' ⟨hx, rfl⟩
          exact ⟨(fun cv hc => hx.trans (Option.some.inj (Option.some.inj hc))), ⟨v1, v2, (fun h => absurd (show L 58 = true from h) (by rw [f58]; decide)), (fun h => absurd (show L 60 = true from h) (by rw [f60]; decide)), (by show Sx.Own _ _ _ _; rw [show Inv.add L 8 58 = false from f58, show Inv.add L 8 60 = false from f60]; exact H)⟩⟩
        · show Sx.StepAt _ _ _ _ _ _ _ 9
          intro L A w up hun hd F ⟨v1, v2, p58, p60, H⟩
          have f12 : L 12 = false := up 12 9 rfl hun
          have f19 : L 19 = false := up 19 12 rfl f12
          have f22 : L 22 = false := up 22 19 rfl f19
          have f28 : L 28 = false := up 28 22 rfl f22
          have f31 : L 31 = false := up 31 28 rfl f28
          have f37 : L 37 = false := up 37 31 rfl f31
          have f40 : L 40 = false := up 40 37 rfl f37
          have f44 : L 44 = false := up 44 40 rfl f40
          have f47 : L 47 = false := up 47 44 rfl f44
          have f53 : L 53 = false := up 53 47 rfl f47
          have f56 : L 56 = false := up 56 53 rfl f53
          have f58 : L 58 = false := up 58 56 rfl f56
          have f60 : L 60 = false := up 60 56 rfl f56
          rw [f58, f60] at H
          have F := Sx.Fr.to F (kv' := [(118, .pointer (some ⟨g1, 1, none⟩)), (117, .bool true)]) ⟨rfl, rfl, trivial⟩
          refine Sx.step_ong rfl (Sx.guard_known (d := 117) (b := true) F rfl rfl) rfl (Sx.d_load1 (i := 7) (v := .int .u64 ((Wd.lo da).toNat)) one_22 F H rfl rfl rfl rfl) ?_
          rintro xv w' ⟨hx, rfl⟩
          exact ⟨(fun cv hc => hx.trans (Option.some.inj (Option.some.inj hc))), ⟨v1, v2, (fun h => absurd (show L 58 = true from h) (by rw [f58]; decide)), (fun h => absurd (show L 60 = true from h) (by rw [f60]; decide)), (by show Sx.Own _ _ _ _; rw [show Inv.add L 9 58 = false from f58, show Inv.add L 9 60 = false from f60]; exact H)⟩⟩
        · show Sx.StepAt _ _ _ _ _ _ _ 10
          intro L A w up hun hd F ⟨v1, v2, p58, p60, H⟩
          have f11 : L 11 = false := up 11 10 rfl hun
          have f12 : L 12 = false := up 12 11 rfl f11
          have f19 : L 19 = false := up 19 12 rfl f12
          have f22 : L 22 = false := up 22 19 rfl f19
          have f28 : L 28 = false := up 28 22 rfl f22
          have f31 : L 31 = false := up 31 28 rfl f28
          have f37 : L 37 = false := up 37 31 rfl f31
          have f40 : L 40 = false := up 40 37 rfl f37
          have f44 : L 44 = false := up 44 40 rfl f40
          have f47 : L 47 = false := up 47 44 rfl f44
          have f53 : L 53 = false := up 53 47 rfl f47
          have f56 : L 56 = false := up 56 53 rfl f53
          have f58 : L 58 = false := up 58 56 rfl f56
          have f60 : L 60 = false := up 60 56 rfl f56
          rw [f58, f60] at H
          have F := Sx.Fr.to F (kv' := [(5, .pointer (some ⟨g2, 0, none⟩)), (117, .bool true)]) ⟨rfl, rfl, trivial⟩
          refine Sx.step_ong rfl (Sx.guard_known (d := 117) (b := true) F rfl rfl) rfl (Sx.d_faddr (v := .pointer (some ⟨g2, 1, none⟩)) F rfl rfl (fa_24_1 _ 0 _)) ?_
          rintro xv w' ⟨hx, rfl⟩
          exact ⟨(fun cv hc => hx.trans (Option.some.inj (Option.some.inj hc))), ⟨v1, v2, (fun h => absurd (show L 58 = true from h) (by rw [f58]; decide)), (fun h => absurd (show L 60 = true from h) (by rw [f60]; decide)), (by show Sx.Own _ _ _ _; rw [show Inv.add L 10 58 = false from f58, show Inv.add L 10 60 = false from f60]; exact H)⟩⟩
        · show Sx.StepAt _ _ _ _ _ _ _ 11
          intro L A w up hun hd F ⟨v1, v2, p58, p60, H⟩
          have f12 : L 12 = false := up 12 11 rfl hun
          have f19 : L 19 = false := up 19 12 rfl f12
          have f22 : L 22 = false := up 22 19 rfl f19
          have f28 : L 28 = false := up 28 22 rfl f22
          have f31 : L 31 = false := up 31 28 rfl f28
          have f37 : L 37 = false := up 37 31 rfl f31
          have f40 : L 40 = false := up 40 37 rfl f37
          have f44 : L 44 = false := up 44 40 rfl f40
          have f47 : L 47 = false := up 47 44 rfl f44
          have f53 : L 53 = false := up 53 47 rfl f47
          have f56 : L 56 = false := up 56 53 rfl f53
          have f58 : L 58 = false := up 58 56 rfl f56
          have f60 : L 60 = false := up 60 56 rfl f56
          rw [f58, f60] at H
          have F := Sx.Fr.to F (kv' := [(120, .pointer (some ⟨g2, 1, none⟩)), (117, .bool true)]) ⟨rfl, rfl, trivial⟩
          refine Sx.step_ong rfl (Sx.guard_known (d := 117) (b := true) F rfl rfl) rfl (Sx.d_load1 (i := 6) (v := .int .u64 ((Wd.lo db).toNat)) one_22 F H rfl rfl rfl rfl) ?_
          rintro xv w' ⟨hx, rfl⟩
          exact ⟨(fun cv hc => hx.trans (Option.some.inj (Option.some.inj hc))), ⟨v1, v2, (fun h => absurd (show L 58 = true from h) (by rw [f58]; decide)), (fun h => absurd (show L 60 = true from h) (by rw [f60]; decide)), (by show Sx.Own _ _ _ _; rw [show Inv.add L 11 58 = false from f58, show Inv.add L 11 60 = false from f60]; exact H)⟩⟩
        · show Sx.StepAt _ _ _ _ _ _ _ 12
          intro L A w up hun hd F ⟨v1, v2, p58, p60, H⟩
          have f19 : L 19 = false := up 19 12 rfl hun
          have f22 : L 22 = false := up 22 19 rfl f19
          have f28 : L 28 = false := up 28 22 rfl f22
          have f31 : L 31 = false := up 31 28 rfl f28
          have f37 : L 37 = false := up 37 31 rfl f31
          have f40 : L 40 = false := up 40 37 rfl f37
          have f44 : L 44 = false := up 44 40 rfl f40
          have f47 : L 47 = false := up 47 44 rfl f44
          have f53 : L 53 = false := up 53 47 rfl f47
          have f56 : L 56 = false := up 56 53 rfl f53
          have f58 : L 58 = false := up 58 56 rfl f56
          have f60 : L 60 = false := up 60 56 rfl f56
          rw [f58, f60] at H
          have F := Sx.Fr.to F (kv' := [(119, .int .u64 ((Wd.lo da).toNat)), (121, .int .u64 ((Wd.lo db).toNat)), (117, .bool true)]) ⟨rfl, rfl, rfl, trivial⟩
          refine Sx.step_ong rfl (Sx.guard_known (d := 117) (b := true) F rfl rfl) rfl (Sx.d_call (vs := [.int .u64 ((Wd.lo da).toNat), .int .u64 ((Wd.lo db).toNat)]) (v := .agg #[.int .u64 ((Wd.hi (Wd.full (Wd.lo da) (Wd.lo db))).toNat), .int .u64 ((Wd.lo (Wd.full (Wd.lo da) (Wd.lo db))).toNat)]) if_28 F H rfl rfl (wfull_c (Wd.lo da) (Wd.lo db) _)) ?_
          rintro xv w' ⟨hx, H⟩
          exact ⟨(fun cv hc => hx.trans (Option.some.inj (Option.some.inj hc))), ⟨v1, v2, (fun h => absurd (show L 58 = true from h) (by rw [f58]; decide)), (fun h => absurd (show L 60 = true from h) (by rw [f60]; decide)), (by show Sx.Own _ _ _ _; rw [show Inv.add L 12 58 = false from f58, show Inv.add L 12 60 = false from f60]; exact H)⟩⟩
        · show Sx.StepAt _ _ _ _ _ _ _ 13
          intro L A w up hun hd F ⟨v1, v2, p58, p60, H⟩
          have f14 : L 14 = false := up 14 13 rfl hun
          have f15 : L 15 = false := up 15 14 rfl f14
          have f19 : L 19 = false := up 19 15 rfl f15
          have f22 : L 22 = false := up 22 19 rfl f19
          have f28 : L 28 = false := up 28 22 rfl f22
          have f31 : L 31 = false := up 31 28 rfl f28
          have f37 : L 37 = false := up 37 31 rfl f31
          have f40 : L 40 = false := up 40 37 rfl f37
          have f44 : L 44 = false := up 44 40 rfl f40
          have f47 : L 47 = false := up 47 44 rfl f44
          have f53 : L 53 = false := up 53 47 rfl f47
          have f56 : L 56 = false := up 56 53 rfl f53
          have f58 : L 58 = false := up 58 56 rfl f56
          have f60 : L 60 = false := up 60 56 rfl f56
          rw [f58, f60] at H
          have F := Sx.Fr.to F (kv' := [(4, .pointer (some ⟨g1, 0, none⟩)), (117, .bool true)]) ⟨rfl, rfl, trivial⟩
          refine Sx.step_ong rfl (Sx.guard_known (d := 117) (b := true) F rfl rfl) rfl (Sx.d_faddr (v := .pointer (some ⟨g1, 1, none⟩)) F rfl rfl (fa_24_1 _ 0 _)) ?_
          rintro xv w' ⟨hx, rfl⟩
          exact ⟨(fun cv hc => hx.trans (Option.some.inj (Option.some.inj hc))), ⟨v1, v2, (fun h => absurd (show L 58 = true from h) (by rw [f58]; decide)), (fun h => absurd (show L 60 = true from h) (by rw [f60]; decide)), (by show Sx.Own _ _ _ _; rw [show Inv.add L 13 58 = false from f58, show Inv.add L 13 60 = false from f60]; exact H)⟩⟩
        · show Sx.StepAt _ _ _ _ _ _ _ 14
          intro L A w up hun hd F ⟨v1, v2, p58, p60, H⟩
          have f15 : L 15 = false := up 15 14 rfl hun
          have f19 : L 19 = false := up 19 15 rfl f15
          have f22 : L 22 = false := up 22 19 rfl f19
          have f28 : L 28 = false := up 28 22 rfl f22
          have f31 : L 31 = false := up 31 28 rfl f28
          have f37 : L 37 = false := up 37 31 rfl f31
          have f40 : L 40 = false := up 40 37 rfl f37
          have f44 : L 44 = false := up 44 40 rfl f40
          have f47 : L 47 = false := up 47 44 rfl f44
          have f53 : L 53 = false := up 53 47 rfl f47
          have f56 : L 56 = false := up 56 53 rfl f53
          have f58 : L 58 = false := up 58 56 rfl f56
          have f60 : L 60 = false := up 60 56 rfl f56
          rw [f58, f60] at H
          have F := Sx.Fr.to F (kv' := [(123, .pointer (some ⟨g1, 1, none⟩)), (117, .bool true)]) ⟨rfl, rfl, trivial⟩
          refine Sx.step_ong rfl (Sx.guard_known (d := 117) (b := true) F rfl rfl) rfl (Sx.d_load1 (i := 7) (v := .int .u64 ((Wd.lo da).toNat)) one_22 F H rfl rfl rfl rfl) ?_
          rintro xv w' ⟨hx, rfl⟩
          exact ⟨(fun cv hc => hx.trans (Option.some.inj (Option.some.inj hc))), ⟨v1, v2, (fun h => absurd (show L 58 = true from h) (by rw [f58]; decide)), (fun h => absurd (show L 60 = true from h) (by rw [f60]; decide)), (by show Sx.Own _ _ _ _; rw [show Inv.add L 14 58 = false from f58, show Inv.add L 14 60 = false from f60]; exact H)⟩⟩
        · show Sx.StepAt _ _ _ _ _ _ _ 15
          intro L A w up hun hd F ⟨v1, v2, p58, p60, H⟩
          have f19 : L 19 = false := up 19 15 rfl hun
          have f22 : L 22 = false := up 22 19 rfl f19
          have f28 : L 28 = false := up 28 22 rfl f22
          have f31 : L 31 = false := up 31 28 rfl f28
          have f37 : L 37 = false := up 37 31 rfl f31
          have f40 : L 40 = false := up 40 37 rfl f37
          have f44 : L 44 = false := up 44 40 rfl f40
          have f47 : L 47 = false := up 47 44 rfl f44
          have f53 : L 53 = false := up 53 47 rfl f47
          have f56 : L 56 = false := up 56 53 rfl f53
          have f58 : L 58 = false := up 58 56 rfl f56
          have f60 : L 60 = false := up 60 56 rfl f56
          rw [f58, f60] at H
          have F := Sx.Fr.to F (kv' := [(124, .int .u64 ((Wd.lo da).toNat)), (117, .bool true)]) ⟨rfl, rfl, trivial⟩
          refine Sx.step_ong rfl (Sx.guard_known (d := 117) (b := true) F rfl rfl) rfl (Sx.d_build (qs := #[(1, .int .u64 ((Wd.lo da).toNat))]) (v := .agg #[.int .u64 ((Wd.hi (Wd.mk 0#64 (Wd.lo da))).toNat), .int .u64 ((Wd.lo (Wd.mk 0#64 (Wd.lo da))).toNat)]) F rfl rfl (by rw [Wd.hi_mk, Wd.lo_mk]; kernel_rfl)) ?_
          rintro xv w' ⟨hx, rfl⟩
          exact ⟨(fun cv hc => hx.trans (Option.some.inj (Option.some.inj hc))), ⟨v1, v2, (fun h => absurd (show L 58 = true from h) (by rw [f58]; decide)), (fun h => absurd (show L 60 = true from h) (by rw [f60]; decide)), (by show Sx.Own _ _ _ _; rw [show Inv.add L 15 58 = false from f58, show Inv.add L 15 60 = false from f60]; exact H)⟩⟩
        · show Sx.StepAt _ _ _ _ _ _ _ 16
          intro L A w up hun hd F ⟨v1, v2, p58, p60, H⟩
          have f17 : L 17 = false := up 17 16 rfl hun
          have f18 : L 18 = false := up 18 17 rfl f17
          have f19 : L 19 = false := up 19 18 rfl f18
          have f22 : L 22 = false := up 22 19 rfl f19
          have f28 : L 28 = false := up 28 22 rfl f22
          have f31 : L 31 = false := up 31 28 rfl f28
          have f37 : L 37 = false := up 37 31 rfl f31
          have f40 : L 40 = false := up 40 37 rfl f37
          have f44 : L 44 = false := up 44 40 rfl f40
          have f47 : L 47 = false := up 47 44 rfl f44
          have f53 : L 53 = false := up 53 47 rfl f47
          have f56 : L 56 = false := up 56 53 rfl f53
          have f58 : L 58 = false := up 58 56 rfl f56
          have f60 : L 60 = false := up 60 56 rfl f56
          rw [f58, f60] at H
          have F := Sx.Fr.to F (kv' := [(5, .pointer (some ⟨g2, 0, none⟩)), (117, .bool true)]) ⟨rfl, rfl, trivial⟩
          refine Sx.step_ong rfl (Sx.guard_known (d := 117) (b := true) F rfl rfl) rfl (Sx.d_faddr (v := .pointer (some ⟨g2, 1, none⟩)) F rfl rfl (fa_24_1 _ 0 _)) ?_
          rintro xv w' ⟨hx, rfl⟩
          exact ⟨(fun cv hc => hx.trans (Option.some.inj (Option.some.inj hc))), ⟨v1, v2, (fun h => absurd (show L 58 = true from h) (by rw [f58]; decide)), (fun h => absurd (show L 60 = true from h) (by rw [f60]; decide)), (by show Sx.Own _ _ _ _; rw [show Inv.add L 16 58 = false from f58, show Inv.add L 16 60 = false from f60]; exact H)⟩⟩
        · show Sx.StepAt _ _ _ _ _ _ _ 17
          intro L A w up hun hd F ⟨v1, v2, p58, p60, H⟩
          have f18 : L 18 = false := up 18 17 rfl hun
          have f19 : L 19 = false := up 19 18 rfl f18
          have f22 : L 22 = false := up 22 19 rfl f19
          have f28 : L 28 = false := up 28 22 rfl f22
          have f31 : L 31 = false := up 31 28 rfl f28
          have f37 : L 37 = false := up 37 31 rfl f31
          have f40 : L 40 = false := up 40 37 rfl f37
          have f44 : L 44 = false := up 44 40 rfl f40
          have f47 : L 47 = false := up 47 44 rfl f44
          have f53 : L 53 = false := up 53 47 rfl f47
          have f56 : L 56 = false := up 56 53 rfl f53
          have f58 : L 58 = false := up 58 56 rfl f56
          have f60 : L 60 = false := up 60 56 rfl f56
          rw [f58, f60] at H
          have F := Sx.Fr.to F (kv' := [(126, .pointer (some ⟨g2, 1, none⟩)), (117, .bool true)]) ⟨rfl, rfl, trivial⟩
          refine Sx.step_ong rfl (Sx.guard_known (d := 117) (b := true) F rfl rfl) rfl (Sx.d_load1 (i := 6) (v := .int .u64 ((Wd.lo db).toNat)) one_22 F H rfl rfl rfl rfl) ?_
          rintro xv w' ⟨hx, rfl⟩
          exact ⟨(fun cv hc => hx.trans (Option.some.inj (Option.some.inj hc))), ⟨v1, v2, (fun h => absurd (show L 58 = true from h) (by rw [f58]; decide)), (fun h => absurd (show L 60 = true from h) (by rw [f60]; decide)), (by show Sx.Own _ _ _ _; rw [show Inv.add L 17 58 = false from f58, show Inv.add L 17 60 = false from f60]; exact H)⟩⟩
        · show Sx.StepAt _ _ _ _ _ _ _ 18
          intro L A w up hun hd F ⟨v1, v2, p58, p60, H⟩
          have f19 : L 19 = false := up 19 18 rfl hun
          have f22 : L 22 = false := up 22 19 rfl f19
          have f28 : L 28 = false := up 28 22 rfl f22
          have f31 : L 31 = false := up 31 28 rfl f28
          have f37 : L 37 = false := up 37 31 rfl f31
          have f40 : L 40 = false := up 40 37 rfl f37
          have f44 : L 44 = false := up 44 40 rfl f40
          have f47 : L 47 = false := up 47 44 rfl f44
          have f53 : L 53 = false := up 53 47 rfl f47
          have f56 : L 56 = false := up 56 53 rfl f53
          have f58 : L 58 = false := up 58 56 rfl f56
          have f60 : L 60 = false := up 60 56 rfl f56
          rw [f58, f60] at H
          have F := Sx.Fr.to F (kv' := [(127, .int .u64 ((Wd.lo db).toNat)), (117, .bool true)]) ⟨rfl, rfl, trivial⟩
          refine Sx.step_ong rfl (Sx.guard_known (d := 117) (b := true) F rfl rfl) rfl (Sx.d_build (qs := #[(1, .int .u64 ((Wd.lo db).toNat))]) (v := .agg #[.int .u64 ((Wd.hi (Wd.mk 0#64 (Wd.lo db))).toNat), .int .u64 ((Wd.lo (Wd.mk 0#64 (Wd.lo db))).toNat)]) F rfl rfl (by rw [Wd.hi_mk, Wd.lo_mk]; kernel_rfl)) ?_
          rintro xv w' ⟨hx, rfl⟩
          exact ⟨(fun cv hc => hx.trans (Option.some.inj (Option.some.inj hc))), ⟨v1, v2, (fun h => absurd (show L 58 = true from h) (by rw [f58]; decide)), (fun h => absurd (show L 60 = true from h) (by rw [f60]; decide)), (by show Sx.Own _ _ _ _; rw [show Inv.add L 18 58 = false from f58, show Inv.add L 18 60 = false from f60]; exact H)⟩⟩
        · show Sx.StepAt _ _ _ _ _ _ _ 19
          intro L A w up hun hd F ⟨v1, v2, p58, p60, H⟩
          have f22 : L 22 = false := up 22 19 rfl hun
          have f28 : L 28 = false := up 28 22 rfl f22
          have f31 : L 31 = false := up 31 28 rfl f28
          have f37 : L 37 = false := up 37 31 rfl f31
          have f40 : L 40 = false := up 40 37 rfl f37
          have f44 : L 44 = false := up 44 40 rfl f40
          have f47 : L 47 = false := up 47 44 rfl f44
          have f53 : L 53 = false := up 53 47 rfl f47
          have f56 : L 56 = false := up 56 53 rfl f53
          have f58 : L 58 = false := up 58 56 rfl f56
          have f60 : L 60 = false := up 60 56 rfl f56
          rw [f58, f60] at H
          have F := Sx.Fr.to F (kv' := [(125, .agg #[.int .u64 ((Wd.hi (Wd.mk 0#64 (Wd.lo da))).toNat), .int .u64 ((Wd.lo (Wd.mk 0#64 (Wd.lo da))).toNat)]), (128, .agg #[.int .u64 ((Wd.hi (Wd.mk 0#64 (Wd.lo db))).toNat), .int .u64 ((Wd.lo (Wd.mk 0#64 (Wd.lo db))).toNat)]), (117, .bool true)]) ⟨rfl, rfl, rfl, trivial⟩
          refine Sx.step_ong rfl (Sx.guard_known (d := 117) (b := true) F rfl rfl) rfl (Sx.d_call (vs := [.agg #[.int .u64 ((Wd.hi (Wd.mk 0#64 (Wd.lo da))).toNat), .int .u64 ((Wd.lo (Wd.mk 0#64 (Wd.lo da))).toNat)], .agg #[.int .u64 ((Wd.hi (Wd.mk 0#64 (Wd.lo db))).toNat), .int .u64 ((Wd.lo (Wd.mk 0#64 (Wd.lo db))).toNat)]]) (v := .agg #[.int .u64 ((Wd.hi ((Wd.mk 0#64 (Wd.lo da)) * (Wd.mk 0#64 (Wd.lo db)))).toNat), .int .u64 ((Wd.lo ((Wd.mk 0#64 (Wd.lo da)) * (Wd.mk 0#64 (Wd.lo db)))).toNat)]) if_27 F H rfl rfl (rmul_c (Wd.mk 0#64 (Wd.lo da)) (Wd.mk 0#64 (Wd.lo db)) _)) ?_
          rintro xv w' ⟨hx, H⟩
          exact ⟨(fun cv hc => hx.trans (Option.some.inj (Option.some.inj hc))), ⟨v1, v2, (fun h => absurd (show L 58 = true from h) (by rw [f58]; decide)), (fun h => absurd (show L 60 = true from h) (by rw [f60]; decide)), (by show Sx.Own _ _ _ _; rw [show Inv.add L 19 58 = false from f58, show Inv.add L 19 60 = false from f60]; exact H)⟩⟩
        · show Sx.StepAt _ _ _ _ _ _ _ 20
          intro L A w up hun hd F ⟨v1, v2, p58, p60, H⟩
          have f21 : L 21 = false := up 21 20 rfl hun
          have f22 : L 22 = false := up 22 21 rfl f21
          have f28 : L 28 = false := up 28 22 rfl f22
          have f31 : L 31 = false := up 31 28 rfl f28
          have f37 : L 37 = false := up 37 31 rfl f31
          have f40 : L 40 = false := up 40 37 rfl f37
          have f44 : L 44 = false := up 44 40 rfl f40
          have f47 : L 47 = false := up 47 44 rfl f44
          have f53 : L 53 = false := up 53 47 rfl f47
          have f56 : L 56 = false := up 56 53 rfl f53
          have f58 : L 58 = false := up 58 56 rfl f56
          have f60 : L 60 = false := up 60 56 rfl f56
          rw [f58, f60] at H
          have F := Sx.Fr.to F (kv' := [(122, .agg #[.int .u64 ((Wd.hi (Wd.full (Wd.lo da) (Wd.lo db))).toNat), .int .u64 ((Wd.lo (Wd.full (Wd.lo da) (Wd.lo db))).toNat)]), (129, .agg #[.int .u64 ((Wd.hi ((Wd.mk 0#64 (Wd.lo da)) * (Wd.mk 0#64 (Wd.lo db)))).toNat), .int .u64 ((Wd.lo ((Wd.mk 0#64 (Wd.lo da)) * (Wd.mk 0#64 (Wd.lo db)))).toNat)]), (117, .bool true)]) ⟨rfl, rfl, rfl, trivial⟩
          refine Sx.step_ong rfl (Sx.guard_known (d := 117) (b := true) F rfl rfl) rfl (Sx.d_bin (v := .bool true) F rfl rfl rfl (Sx.i_eqU (decide_eq_true (Wd.full_mul _ _)))) ?_
          rintro xv w' ⟨hx, rfl⟩
          exact ⟨(fun cv hc => hx.trans (Option.some.inj (Option.some.inj hc))), ⟨v1, v2, (fun h => absurd (show L 58 = true from h) (by rw [f58]; decide)), (fun h => absurd (show L 60 = true from h) (by rw [f60]; decide)), (by show Sx.Own _ _ _ _; rw [show Inv.add L 20 58 = false from f58, show Inv.add L 20 60 = false from f60]; exact H)⟩⟩
        · show Sx.StepAt _ _ _ _ _ _ _ 21
          intro L A w up hun hd F ⟨v1, v2, p58, p60, H⟩
          have f22 : L 22 = false := up 22 21 rfl hun
          have f28 : L 28 = false := up 28 22 rfl f22
          have f31 : L 31 = false := up 31 28 rfl f28
          have f37 : L 37 = false := up 37 31 rfl f31
          have f40 : L 40 = false := up 40 37 rfl f37
          have f44 : L 44 = false := up 44 40 rfl f40
          have f47 : L 47 = false := up 47 44 rfl f44
          have f53 : L 53 = false := up 53 47 rfl f47
          have f56 : L 56 = false := up 56 53 rfl f53
          have f58 : L 58 = false := up 58 56 rfl f56
          have f60 : L 60 = false := up 60 56 rfl f56
          rw [f58, f60] at H
          have F := Sx.Fr.to F (kv' := [(117, .bool true), (130, .bool true)]) ⟨rfl, rfl, trivial⟩
          refine Sx.step_on rfl (Sx.d_pickT (v := .bool true) F rfl rfl rfl) ?_
          rintro xv w' ⟨hx, rfl⟩
          exact ⟨(fun cv hc => hx.trans (Option.some.inj (Option.some.inj hc))), ⟨v1, v2, (fun h => absurd (show L 58 = true from h) (by rw [f58]; decide)), (fun h => absurd (show L 60 = true from h) (by rw [f60]; decide)), (by show Sx.Own _ _ _ _; rw [show Inv.add L 21 58 = false from f58, show Inv.add L 21 60 = false from f60]; exact H)⟩⟩
        · show Sx.StepAt _ _ _ _ _ _ _ 22
          intro L A w up hun hd F ⟨v1, v2, p58, p60, H⟩
          have f28 : L 28 = false := up 28 22 rfl hun
          have f31 : L 31 = false := up 31 28 rfl f28
          have f37 : L 37 = false := up 37 31 rfl f31
          have f40 : L 40 = false := up 40 37 rfl f37
          have f44 : L 44 = false := up 44 40 rfl f40
          have f47 : L 47 = false := up 47 44 rfl f44
          have f53 : L 53 = false := up 53 47 rfl f47
          have f56 : L 56 = false := up 56 53 rfl f53
          have f58 : L 58 = false := up 58 56 rfl f56
          have f60 : L 60 = false := up 60 56 rfl f56
          rw [f58, f60] at H
          have F := Sx.Fr.to F (kv' := [(131, .bool true)]) ⟨rfl, trivial⟩
          refine Sx.step_on rfl (Sx.d_move F (Or.inl rfl) rfl) ?_
          rintro xv w' ⟨hx, rfl⟩
          exact ⟨(fun cv hc => hx.trans (Option.some.inj (Option.some.inj hc))), ⟨v1, v2, (fun h => absurd (show L 58 = true from h) (by rw [f58]; decide)), (fun h => absurd (show L 60 = true from h) (by rw [f60]; decide)), (by show Sx.Own _ _ _ _; rw [show Inv.add L 22 58 = false from f58, show Inv.add L 22 60 = false from f60]; exact H)⟩⟩
        · show Sx.StepAt _ _ _ _ _ _ _ 23
          intro L A w up hun hd F ⟨v1, v2, p58, p60, H⟩
          have f25 : L 25 = false := up 25 23 rfl hun
          have f28 : L 28 = false := up 28 25 rfl f25
          have f31 : L 31 = false := up 31 28 rfl f28
          have f37 : L 37 = false := up 37 31 rfl f31
          have f40 : L 40 = false := up 40 37 rfl f37
          have f44 : L 44 = false := up 44 40 rfl f40
          have f47 : L 47 = false := up 47 44 rfl f44
          have f53 : L 53 = false := up 53 47 rfl f47
          have f56 : L 56 = false := up 56 53 rfl f53
          have f58 : L 58 = false := up 58 56 rfl f56
          have f60 : L 60 = false := up 60 56 rfl f56
          rw [f58, f60] at H
          have F := Sx.Fr.to F (kv' := [(4, .pointer (some ⟨g1, 0, none⟩)), (132, .bool true)]) ⟨rfl, rfl, trivial⟩
          refine Sx.step_ong rfl (Sx.guard_known (d := 132) (b := true) F rfl rfl) rfl (Sx.d_load (i := 7) (xs := [.int .u64 ((Wd.hi da).toNat), .int .u64 ((Wd.lo da).toNat)]) rw_24 F H rfl rfl rfl rfl rfl) ?_
          rintro xv w' ⟨hx, rfl⟩
          exact ⟨(fun cv hc => hx.trans (Option.some.inj (Option.some.inj hc))), ⟨v1, v2, (fun h => absurd (show L 58 = true from h) (by rw [f58]; decide)), (fun h => absurd (show L 60 = true from h) (by rw [f60]; decide)), (by show Sx.Own _ _ _ _; rw [show Inv.add L 23 58 = false from f58, show Inv.add L 23 60 = false from f60]; exact H)⟩⟩
        · show Sx.StepAt _ _ _ _ _ _ _ 24
          intro L A w up hun hd F ⟨v1, v2, p58, p60, H⟩
          have f25 : L 25 = false := up 25 24 rfl hun
          have f28 : L 28 = false := up 28 25 rfl f25
          have f31 : L 31 = false := up 31 28 rfl f28
          have f37 : L 37 = false := up 37 31 rfl f31
          have f40 : L 40 = false := up 40 37 rfl f37
          have f44 : L 44 = false := up 44 40 rfl f40
          have f47 : L 47 = false := up 47 44 rfl f44
          have f53 : L 53 = false := up 53 47 rfl f47
          have f56 : L 56 = false := up 56 53 rfl f53
          have f58 : L 58 = false := up 58 56 rfl f56
          have f60 : L 60 = false := up 60 56 rfl f56
          rw [f58, f60] at H
          have F := Sx.Fr.to F (kv' := [(2, .int .i64 n), (132, .bool true)]) ⟨rfl, rfl, trivial⟩
          refine Sx.step_ong rfl (Sx.guard_known (d := 132) (b := true) F rfl rfl) rfl (Sx.d_move F (Or.inl rfl) rfl) ?_
          rintro xv w' ⟨hx, rfl⟩
          exact ⟨(fun cv hc => hx.trans (Option.some.inj (Option.some.inj hc))), ⟨v1, v2, (fun h => absurd (show L 58 = true from h) (by rw [f58]; decide)), (fun h => absurd (show L 60 = true from h) (by rw [f60]; decide)), (by show Sx.Own _ _ _ _; rw [show Inv.add L 24 58 = false from f58, show Inv.add L 24 60 = false from f60]; exact H)⟩⟩
        · show Sx.StepAt _ _ _ _ _ _ _ 25
          intro L A w up hun hd F ⟨v1, v2, p58, p60, H⟩
          have f28 : L 28 = false := up 28 25 rfl hun
          have f31 : L 31 = false := up 31 28 rfl f28
          have f37 : L 37 = false := up 37 31 rfl f31
          have f40 : L 40 = false := up 40 37 rfl f37
          have f44 : L 44 = false := up 44 40 rfl f40
          have f47 : L 47 = false := up 47 44 rfl f44
          have f53 : L 53 = false := up 53 47 rfl f47
          have f56 : L 56 = false := up 56 53 rfl f53
          have f58 : L 58 = false := up 58 56 rfl f56
          have f60 : L 60 = false := up 60 56 rfl f56
          rw [f58, f60] at H
          have F := Sx.Fr.to F (kv' := [(133, .agg #[.int .u64 ((Wd.hi da).toNat), .int .u64 ((Wd.lo da).toNat)]), (134, .int .i64 n), (132, .bool true)]) ⟨rfl, rfl, rfl, trivial⟩
          refine Sx.step_ong rfl (Sx.guard_known (d := 132) (b := true) F rfl rfl) rfl (Sx.d_call (vs := [.agg #[.int .u64 ((Wd.hi da).toNat), .int .u64 ((Wd.lo da).toNat)], .int .i64 n]) (v := .agg #[.int .u64 ((Wd.hi (da <<< n.toNat)).toNat), .int .u64 ((Wd.lo (da <<< n.toNat)).toNat)]) if_15 F H rfl rfl (wleft_c da n (by omega) _)) ?_
          rintro xv w' ⟨hx, H⟩
          exact ⟨(fun cv hc => hx.trans (Option.some.inj (Option.some.inj hc))), ⟨v1, v2, (fun h => absurd (show L 58 = true from h) (by rw [f58]; decide)), (fun h => absurd (show L 60 = true from h) (by rw [f60]; decide)), (by show Sx.Own _ _ _ _; rw [show Inv.add L 25 58 = false from f58, show Inv.add L 25 60 = false from f60]; exact H)⟩⟩
        · show Sx.StepAt _ _ _ _ _ _ _ 26
          intro L A w up hun hd F ⟨v1, v2, p58, p60, H⟩
          have f28 : L 28 = false := up 28 26 rfl hun
          have f31 : L 31 = false := up 31 28 rfl f28
          have f37 : L 37 = false := up 37 31 rfl f31
          have f40 : L 40 = false := up 40 37 rfl f37
          have f44 : L 44 = false := up 44 40 rfl f40
          have f47 : L 47 = false := up 47 44 rfl f44
          have f53 : L 53 = false := up 53 47 rfl f47
          have f56 : L 56 = false := up 56 53 rfl f53
          have f58 : L 58 = false := up 58 56 rfl f56
          have f60 : L 60 = false := up 60 56 rfl f56
          rw [f58, f60] at H
          have F := Sx.Fr.to F (kv' := [(9, .pointer (some ⟨g3, 0, none⟩)), (132, .bool true)]) ⟨rfl, rfl, trivial⟩
          refine Sx.step_ong rfl (Sx.guard_known (d := 132) (b := true) F rfl rfl) rfl (Sx.d_load (i := 8) (xs := [.int .u64 ((Wd.hi da).toNat), .int .u64 ((Wd.lo da).toNat)]) rw_43 F H rfl rfl rfl rfl rfl) ?_
          rintro xv w' ⟨hx, rfl⟩
          exact ⟨(fun cv hc => hx.trans (Option.some.inj (Option.some.inj hc))), ⟨v1, v2, (fun h => absurd (show L 58 = true from h) (by rw [f58]; decide)), (fun h => absurd (show L 60 = true from h) (by rw [f60]; decide)), (by show Sx.Own _ _ _ _; rw [show Inv.add L 26 58 = false from f58, show Inv.add L 26 60 = false from f60]; exact H)⟩⟩
        · show Sx.StepAt _ _ _ _ _ _ _ 27
          intro L A w up hun hd F ⟨v1, v2, p58, p60, H⟩
          have f28 : L 28 = false := up 28 27 rfl hun
          have f31 : L 31 = false := up 31 28 rfl f28
          have f37 : L 37 = false := up 37 31 rfl f31
          have f40 : L 40 = false := up 40 37 rfl f37
          have f44 : L 44 = false := up 44 40 rfl f40
          have f47 : L 47 = false := up 47 44 rfl f44
          have f53 : L 53 = false := up 53 47 rfl f47
          have f56 : L 56 = false := up 56 53 rfl f53
          have f58 : L 58 = false := up 58 56 rfl f56
          have f60 : L 60 = false := up 60 56 rfl f56
          rw [f58, f60] at H
          have F := Sx.Fr.to F (kv' := [(2, .int .i64 n), (132, .bool true)]) ⟨rfl, rfl, trivial⟩
          refine Sx.step_ong rfl (Sx.guard_known (d := 132) (b := true) F rfl rfl) rfl (Sx.d_move F (Or.inl rfl) rfl) ?_
          rintro xv w' ⟨hx, rfl⟩
          exact ⟨(fun cv hc => hx.trans (Option.some.inj (Option.some.inj hc))), ⟨v1, v2, (fun h => absurd (show L 58 = true from h) (by rw [f58]; decide)), (fun h => absurd (show L 60 = true from h) (by rw [f60]; decide)), (by show Sx.Own _ _ _ _; rw [show Inv.add L 27 58 = false from f58, show Inv.add L 27 60 = false from f60]; exact H)⟩⟩
        · show Sx.StepAt _ _ _ _ _ _ _ 28
          intro L A w up hun hd F ⟨v1, v2, p58, p60, H⟩
          have f31 : L 31 = false := up 31 28 rfl hun
          have f37 : L 37 = false := up 37 31 rfl f31
          have f40 : L 40 = false := up 40 37 rfl f37
          have f44 : L 44 = false := up 44 40 rfl f40
          have f47 : L 47 = false := up 47 44 rfl f44
          have f53 : L 53 = false := up 53 47 rfl f47
          have f56 : L 56 = false := up 56 53 rfl f53
          have f58 : L 58 = false := up 58 56 rfl f56
          have f60 : L 60 = false := up 60 56 rfl f56
          rw [f58, f60] at H
          have F := Sx.Fr.to F (kv' := [(136, .agg #[.int .u64 ((Wd.hi da).toNat), .int .u64 ((Wd.lo da).toNat)]), (137, .int .i64 n), (132, .bool true)]) ⟨rfl, rfl, rfl, trivial⟩
          refine Sx.step_ong rfl (Sx.guard_known (d := 132) (b := true) F rfl rfl) rfl (Sx.d_call (vs := [.agg #[.int .u64 ((Wd.hi da).toNat), .int .u64 ((Wd.lo da).toNat)], .int .i64 n]) (v := .agg #[.int .u64 ((Wd.hi (da <<< n.toNat)).toNat), .int .u64 ((Wd.lo (da <<< n.toNat)).toNat)]) if_29 F H rfl rfl (rleftI_c da n _)) ?_
          rintro xv w' ⟨hx, H⟩
          exact ⟨(fun cv hc => hx.trans (Option.some.inj (Option.some.inj hc))), ⟨v1, v2, (fun h => absurd (show L 58 = true from h) (by rw [f58]; decide)), (fun h => absurd (show L 60 = true from h) (by rw [f60]; decide)), (by show Sx.Own _ _ _ _; rw [show Inv.add L 28 58 = false from f58, show Inv.add L 28 60 = false from f60]; exact H)⟩⟩
        · show Sx.StepAt _ _ _ _ _ _ _ 29
          intro L A w up hun hd F ⟨v1, v2, p58, p60, H⟩
          have f30 : L 30 = false := up 30 29 rfl hun
          have f31 : L 31 = false := up 31 30 rfl f30
          have f37 : L 37 = false := up 37 31 rfl f31
          have f40 : L 40 = false := up 40 37 rfl f37
          have f44 : L 44 = false := up 44 40 rfl f40
          have f47 : L 47 = false := up 47 44 rfl f44
          have f53 : L 53 = false := up 53 47 rfl f47
          have f56 : L 56 = false := up 56 53 rfl f53
          have f58 : L 58 = false := up 58 56 rfl f56
          have f60 : L 60 = false := up 60 56 rfl f56
          rw [f58, f60] at H
          have F := Sx.Fr.to F (kv' := [(135, .agg #[.int .u64 ((Wd.hi (da <<< n.toNat)).toNat), .int .u64 ((Wd.lo (da <<< n.toNat)).toNat)]), (138, .agg #[.int .u64 ((Wd.hi (da <<< n.toNat)).toNat), .int .u64 ((Wd.lo (da <<< n.toNat)).toNat)]), (132, .bool true)]) ⟨rfl, rfl, rfl, trivial⟩
          refine Sx.step_ong rfl (Sx.guard_known (d := 132) (b := true) F rfl rfl) rfl (Sx.d_bin (v := .bool true) F rfl rfl rfl (Sx.i_eqU (eqb_self _))) ?_
          rintro xv w' ⟨hx, rfl⟩
          exact ⟨(fun cv hc => hx.trans (Option.some.inj (Option.some.inj hc))), ⟨v1, v2, (fun h => absurd (show L 58 = true from h) (by rw [f58]; decide)), (fun h => absurd (show L 60 = true from h) (by rw [f60]; decide)), (by show Sx.Own _ _ _ _; rw [show Inv.add L 29 58 = false from f58, show Inv.add L 29 60 = false from f60]; exact H)⟩⟩
        · show Sx.StepAt _ _ _ _ _ _ _ 30
          intro L A w up hun hd F ⟨v1, v2, p58, p60, H⟩
          have f31 : L 31 = false := up 31 30 rfl hun
          have f37 : L 37 = false := up 37 31 rfl f31
          have f40 : L 40 = false := up 40 37 rfl f37
          have f44 : L 44 = false := up 44 40 rfl f40
          have f47 : L 47 = false := up 47 44 rfl f44
          have f53 : L 53 = false := up 53 47 rfl f47
          have f56 : L 56 = false := up 56 53 rfl f53
          have f58 : L 58 = false := up 58 56 rfl f56
          have f60 : L 60 = false := up 60 56 rfl f56
          rw [f58, f60] at H
          have F := Sx.Fr.to F (kv' := [(132, .bool true), (139, .bool true)]) ⟨rfl, rfl, trivial⟩
          refine Sx.step_on rfl (Sx.d_pickT (v := .bool true) F rfl rfl rfl) ?_
          rintro xv w' ⟨hx, rfl⟩
          exact ⟨(fun cv hc => hx.trans (Option.some.inj (Option.some.inj hc))), ⟨v1, v2, (fun h => absurd (show L 58 = true from h) (by rw [f58]; decide)), (fun h => absurd (show L 60 = true from h) (by rw [f60]; decide)), (by show Sx.Own _ _ _ _; rw [show Inv.add L 30 58 = false from f58, show Inv.add L 30 60 = false from f60]; exact H)⟩⟩
        · show Sx.StepAt _ _ _ _ _ _ _ 31
          intro L A w up hun hd F ⟨v1, v2, p58, p60, H⟩
          have f37 : L 37 = false := up 37 31 rfl hun
          have f40 : L 40 = false := up 40 37 rfl f37
          have f44 : L 44 = false := up 44 40 rfl f40
          have f47 : L 47 = false := up 47 44 rfl f44
          have f53 : L 53 = false := up 53 47 rfl f47
          have f56 : L 56 = false := up 56 53 rfl f53
          have f58 : L 58 = false := up 58 56 rfl f56
          have f60 : L 60 = false := up 60 56 rfl f56
          rw [f58, f60] at H
          have F := Sx.Fr.to F (kv' := [(140, .bool true)]) ⟨rfl, trivial⟩
          refine Sx.step_on rfl (Sx.d_move F (Or.inl rfl) rfl) ?_
          rintro xv w' ⟨hx, rfl⟩
          exact ⟨(fun cv hc => hx.trans (Option.some.inj (Option.some.inj hc))), ⟨v1, v2, (fun h => absurd (show L 58 = true from h) (by rw [f58]; decide)), (fun h => absurd (show L 60 = true from h) (by rw [f60]; decide)), (by show Sx.Own _ _ _ _; rw [show Inv.add L 31 58 = false from f58, show Inv.add L 31 60 = false from f60]; exact H)⟩⟩
        · show Sx.StepAt _ _ _ _ _ _ _ 32
          intro L A w up hun hd F ⟨v1, v2, p58, p60, H⟩
          have f34 : L 34 = false := up 34 32 rfl hun
          have f37 : L 37 = false := up 37 34 rfl f34
          have f40 : L 40 = false := up 40 37 rfl f37
          have f44 : L 44 = false := up 44 40 rfl f40
          have f47 : L 47 = false := up 47 44 rfl f44
          have f53 : L 53 = false := up 53 47 rfl f47
          have f56 : L 56 = false := up 56 53 rfl f53
          have f58 : L 58 = false := up 58 56 rfl f56
          have f60 : L 60 = false := up 60 56 rfl f56
          rw [f58, f60] at H
          have F := Sx.Fr.to F (kv' := [(4, .pointer (some ⟨g1, 0, none⟩)), (141, .bool true)]) ⟨rfl, rfl, trivial⟩
          refine Sx.step_ong rfl (Sx.guard_known (d := 141) (b := true) F rfl rfl) rfl (Sx.d_load (i := 7) (xs := [.int .u64 ((Wd.hi da).toNat), .int .u64 ((Wd.lo da).toNat)]) rw_24 F H rfl rfl rfl rfl rfl) ?_
          rintro xv w' ⟨hx, rfl⟩
          exact ⟨(fun cv hc => hx.trans (Option.some.inj (Option.some.inj hc))), ⟨v1, v2, (fun h => absurd (show L 58 = true from h) (by rw [f58]; decide)), (fun h => absurd (show L 60 = true from h) (by rw [f60]; decide)), (by show Sx.Own _ _ _ _; rw [show Inv.add L 32 58 = false from f58, show Inv.add L 32 60 = false from f60]; exact H)⟩⟩
        · show Sx.StepAt _ _ _ _ _ _ _ 33
          intro L A w up hun hd F ⟨v1, v2, p58, p60, H⟩
          have f34 : L 34 = false := up 34 33 rfl hun
          have f37 : L 37 = false := up 37 34 rfl f34
          have f40 : L 40 = false := up 40 37 rfl f37
          have f44 : L 44 = false := up 44 40 rfl f40
          have f47 : L 47 = false := up 47 44 rfl f44
          have f53 : L 53 = false := up 53 47 rfl f47
          have f56 : L 56 = false := up 56 53 rfl f53
          have f58 : L 58 = false := up 58 56 rfl f56
          have f60 : L 60 = false := up 60 56 rfl f56
          rw [f58, f60] at H
          have F := Sx.Fr.to F (kv' := [(2, .int .i64 n), (141, .bool true)]) ⟨rfl, rfl, trivial⟩
          refine Sx.step_ong rfl (Sx.guard_known (d := 141) (b := true) F rfl rfl) rfl (Sx.d_move F (Or.inl rfl) rfl) ?_
          rintro xv w' ⟨hx, rfl⟩
          exact ⟨(fun cv hc => hx.trans (Option.some.inj (Option.some.inj hc))), ⟨v1, v2, (fun h => absurd (show L 58 = true from h) (by rw [f58]; decide)), (fun h => absurd (show L 60 = true from h) (by rw [f60]; decide)), (by show Sx.Own _ _ _ _; rw [show Inv.add L 33 58 = false from f58, show Inv.add L 33 60 = false from f60]; exact H)⟩⟩
        · show Sx.StepAt _ _ _ _ _ _ _ 34
          intro L A w up hun hd F ⟨v1, v2, p58, p60, H⟩
          have f37 : L 37 = false := up 37 34 rfl hun
          have f40 : L 40 = false := up 40 37 rfl f37
          have f44 : L 44 = false := up 44 40 rfl f40
          have f47 : L 47 = false := up 47 44 rfl f44
          have f53 : L 53 = false := up 53 47 rfl f47
          have f56 : L 56 = false := up 56 53 rfl f53
          have f58 : L 58 = false := up 58 56 rfl f56
          have f60 : L 60 = false := up 60 56 rfl f56
          rw [f58, f60] at H
          have F := Sx.Fr.to F (kv' := [(142, .agg #[.int .u64 ((Wd.hi da).toNat), .int .u64 ((Wd.lo da).toNat)]), (143, .int .i64 n), (141, .bool true)]) ⟨rfl, rfl, rfl, trivial⟩
          refine Sx.step_ong rfl (Sx.guard_known (d := 141) (b := true) F rfl rfl) rfl (Sx.d_call (vs := [.agg #[.int .u64 ((Wd.hi da).toNat), .int .u64 ((Wd.lo da).toNat)], .int .i64 n]) (v := .agg #[.int .u64 ((Wd.hi (da >>> n.toNat)).toNat), .int .u64 ((Wd.lo (da >>> n.toNat)).toNat)]) if_16 F H rfl rfl (wright_c da n (by omega) _)) ?_
          rintro xv w' ⟨hx, H⟩
          exact ⟨(fun cv hc => hx.trans (Option.some.inj (Option.some.inj hc))), ⟨v1, v2, (fun h => absurd (show L 58 = true from h) (by rw [f58]; decide)), (fun h => absurd (show L 60 = true from h) (by rw [f60]; decide)), (by show Sx.Own _ _ _ _; rw [show Inv.add L 34 58 = false from f58, show Inv.add L 34 60 = false from f60]; exact H)⟩⟩
        · show Sx.StepAt _ _ _ _ _ _ _ 35
          intro L A w up hun hd F ⟨v1, v2, p58, p60, H⟩
          have f37 : L 37 = false := up 37 35 rfl hun
          have f40 : L 40 = false := up 40 37 rfl f37
          have f44 : L 44 = false := up 44 40 rfl f40
          have f47 : L 47 = false := up 47 44 rfl f44
          have f53 : L 53 = false := up 53 47 rfl f47
          have f56 : L 56 = false := up 56 53 rfl f53
          have f58 : L 58 = false := up 58 56 rfl f56
          have f60 : L 60 = false := up 60 56 rfl f56
          rw [f58, f60] at H
          have F := Sx.Fr.to F (kv' := [(9, .pointer (some ⟨g3, 0, none⟩)), (141, .bool true)]) ⟨rfl, rfl, trivial⟩
          refine Sx.step_ong rfl (Sx.guard_known (d := 141) (b := true) F rfl rfl) rfl (Sx.d_load (i := 8) (xs := [.int .u64 ((Wd.hi da).toNat), .int .u64 ((Wd.lo da).toNat)]) rw_43 F H rfl rfl rfl rfl rfl) ?_
          rintro xv w' ⟨hx, rfl⟩
          exact ⟨(fun cv hc => hx.trans (Option.some.inj (Option.some.inj hc))), ⟨v1, v2, (fun h => absurd (show L 58 = true from h) (by rw [f58]; decide)), (fun h => absurd (show L 60 = true from h) (by rw [f60]; decide)), (by show Sx.Own _ _ _ _; rw [show Inv.add L 35 58 = false from f58, show Inv.add L 35 60 = false from f60]; exact H)⟩⟩
        · show Sx.StepAt _ _ _ _ _ _ _ 36
          intro L A w up hun hd F ⟨v1, v2, p58, p60, H⟩
          have f37 : L 37 = false := up 37 36 rfl hun
          have f40 : L 40 = false := up 40 37 rfl f37
          have f44 : L 44 = false := up 44 40 rfl f40
          have f47 : L 47 = false := up 47 44 rfl f44
          have f53 : L 53 = false := up 53 47 rfl f47
          have f56 : L 56 = false := up 56 53 rfl f53
          have f58 : L 58 = false := up 58 56 rfl f56
          have f60 : L 60 = false := up 60 56 rfl f56
          rw [f58, f60] at H
          have F := Sx.Fr.to F (kv' := [(2, .int .i64 n), (141, .bool true)]) ⟨rfl, rfl, trivial⟩
          refine Sx.step_ong rfl (Sx.guard_known (d := 141) (b := true) F rfl rfl) rfl (Sx.d_move F (Or.inl rfl) rfl) ?_
          rintro xv w' ⟨hx, rfl⟩
          exact ⟨(fun cv hc => hx.trans (Option.some.inj (Option.some.inj hc))), ⟨v1, v2, (fun h => absurd (show L 58 = true from h) (by rw [f58]; decide)), (fun h => absurd (show L 60 = true from h) (by rw [f60]; decide)), (by show Sx.Own _ _ _ _; rw [show Inv.add L 36 58 = false from f58, show Inv.add L 36 60 = false from f60]; exact H)⟩⟩
        · show Sx.StepAt _ _ _ _ _ _ _ 37
          intro L A w up hun hd F ⟨v1, v2, p58, p60, H⟩
          have f40 : L 40 = false := up 40 37 rfl hun
          have f44 : L 44 = false := up 44 40 rfl f40
          have f47 : L 47 = false := up 47 44 rfl f44
          have f53 : L 53 = false := up 53 47 rfl f47
          have f56 : L 56 = false := up 56 53 rfl f53
          have f58 : L 58 = false := up 58 56 rfl f56
          have f60 : L 60 = false := up 60 56 rfl f56
          rw [f58, f60] at H
          have F := Sx.Fr.to F (kv' := [(145, .agg #[.int .u64 ((Wd.hi da).toNat), .int .u64 ((Wd.lo da).toNat)]), (146, .int .i64 n), (141, .bool true)]) ⟨rfl, rfl, rfl, trivial⟩
          refine Sx.step_ong rfl (Sx.guard_known (d := 141) (b := true) F rfl rfl) rfl (Sx.d_call (vs := [.agg #[.int .u64 ((Wd.hi da).toNat), .int .u64 ((Wd.lo da).toNat)], .int .i64 n]) (v := .agg #[.int .u64 ((Wd.hi (da >>> n.toNat)).toNat), .int .u64 ((Wd.lo (da >>> n.toNat)).toNat)]) if_30 F H rfl rfl (rright_c da n _)) ?_
          rintro xv w' ⟨hx, H⟩
          exact ⟨(fun cv hc => hx.trans (Option.some.inj (Option.some.inj hc))), ⟨v1, v2, (fun h => absurd (show L 58 = true from h) (by rw [f58]; decide)), (fun h => absurd (show L 60 = true from h) (by rw [f60]; decide)), (by show Sx.Own _ _ _ _; rw [show Inv.add L 37 58 = false from f58, show Inv.add L 37 60 = false from f60]; exact H)⟩⟩
        · show Sx.StepAt _ _ _ _ _ _ _ 38
          intro L A w up hun hd F ⟨v1, v2, p58, p60, H⟩
          have f39 : L 39 = false := up 39 38 rfl hun
          have f40 : L 40 = false := up 40 39 rfl f39
          have f44 : L 44 = false := up 44 40 rfl f40
          have f47 : L 47 = false := up 47 44 rfl f44
          have f53 : L 53 = false := up 53 47 rfl f47
          have f56 : L 56 = false := up 56 53 rfl f53
          have f58 : L 58 = false := up 58 56 rfl f56
          have f60 : L 60 = false := up 60 56 rfl f56
          rw [f58, f60] at H
          have F := Sx.Fr.to F (kv' := [(144, .agg #[.int .u64 ((Wd.hi (da >>> n.toNat)).toNat), .int .u64 ((Wd.lo (da >>> n.toNat)).toNat)]), (147, .agg #[.int .u64 ((Wd.hi (da >>> n.toNat)).toNat), .int .u64 ((Wd.lo (da >>> n.toNat)).toNat)]), (141, .bool true)]) ⟨rfl, rfl, rfl, trivial⟩
          refine Sx.step_ong rfl (Sx.guard_known (d := 141) (b := true) F rfl rfl) rfl (Sx.d_bin (v := .bool true) F rfl rfl rfl (Sx.i_eqU (eqb_self _))) ?_
          rintro xv w' ⟨hx, rfl⟩
          exact ⟨(fun cv hc => hx.trans (Option.some.inj (Option.some.inj hc))), ⟨v1, v2, (fun h => absurd (show L 58 = true from h) (by rw [f58]; decide)), (fun h => absurd (show L 60 = true from h) (by rw [f60]; decide)), (by show Sx.Own _ _ _ _; rw [show Inv.add L 38 58 = false from f58, show Inv.add L 38 60 = false from f60]; exact H)⟩⟩
        · show Sx.StepAt _ _ _ _ _ _ _ 39
          intro L A w up hun hd F ⟨v1, v2, p58, p60, H⟩
          have f40 : L 40 = false := up 40 39 rfl hun
          have f44 : L 44 = false := up 44 40 rfl f40
          have f47 : L 47 = false := up 47 44 rfl f44
          have f53 : L 53 = false := up 53 47 rfl f47
          have f56 : L 56 = false := up 56 53 rfl f53
          have f58 : L 58 = false := up 58 56 rfl f56
          have f60 : L 60 = false := up 60 56 rfl f56
          rw [f58, f60] at H
          have F := Sx.Fr.to F (kv' := [(141, .bool true), (148, .bool true)]) ⟨rfl, rfl, trivial⟩
          refine Sx.step_on rfl (Sx.d_pickT (v := .bool true) F rfl rfl rfl) ?_
          rintro xv w' ⟨hx, rfl⟩
          exact ⟨(fun cv hc => hx.trans (Option.some.inj (Option.some.inj hc))), ⟨v1, v2, (fun h => absurd (show L 58 = true from h) (by rw [f58]; decide)), (fun h => absurd (show L 60 = true from h) (by rw [f60]; decide)), (by show Sx.Own _ _ _ _; rw [show Inv.add L 39 58 = false from f58, show Inv.add L 39 60 = false from f60]; exact H)⟩⟩
        · show Sx.StepAt _ _ _ _ _ _ _ 40
          intro L A w up hun hd F ⟨v1, v2, p58, p60, H⟩
          have f44 : L 44 = false := up 44 40 rfl hun
          have f47 : L 47 = false := up 47 44 rfl f44
          have f53 : L 53 = false := up 53 47 rfl f47
          have f56 : L 56 = false := up 56 53 rfl f53
          have f58 : L 58 = false := up 58 56 rfl f56
          have f60 : L 60 = false := up 60 56 rfl f56
          rw [f58, f60] at H
          have F := Sx.Fr.to F (kv' := [(149, .bool true)]) ⟨rfl, trivial⟩
          refine Sx.step_on rfl (Sx.d_move F (Or.inl rfl) rfl) ?_
          rintro xv w' ⟨hx, rfl⟩
          exact ⟨(fun cv hc => hx.trans (Option.some.inj (Option.some.inj hc))), ⟨v1, v2, (fun h => absurd (show L 58 = true from h) (by rw [f58]; decide)), (fun h => absurd (show L 60 = true from h) (by rw [f60]; decide)), (by show Sx.Own _ _ _ _; rw [show Inv.add L 40 58 = false from f58, show Inv.add L 40 60 = false from f60]; exact H)⟩⟩
        · show Sx.StepAt _ _ _ _ _ _ _ 41
          intro L A w up hun hd F ⟨v1, v2, p58, p60, H⟩
          have f42 : L 42 = false := up 42 41 rfl hun
          have f44 : L 44 = false := up 44 42 rfl f42
          have f47 : L 47 = false := up 47 44 rfl f44
          have f53 : L 53 = false := up 53 47 rfl f47
          have f56 : L 56 = false := up 56 53 rfl f53
          have f58 : L 58 = false := up 58 56 rfl f56
          have f60 : L 60 = false := up 60 56 rfl f56
          rw [f58, f60] at H
          have F := Sx.Fr.to F (kv' := [(4, .pointer (some ⟨g1, 0, none⟩)), (150, .bool true)]) ⟨rfl, rfl, trivial⟩
          refine Sx.step_ong rfl (Sx.guard_known (d := 150) (b := true) F rfl rfl) rfl (Sx.d_load (i := 7) (xs := [.int .u64 ((Wd.hi da).toNat), .int .u64 ((Wd.lo da).toNat)]) rw_24 F H rfl rfl rfl rfl rfl) ?_
          rintro xv w' ⟨hx, rfl⟩
          exact ⟨(fun cv hc => hx.trans (Option.some.inj (Option.some.inj hc))), ⟨v1, v2, (fun h => absurd (show L 58 = true from h) (by rw [f58]; decide)), (fun h => absurd (show L 60 = true from h) (by rw [f60]; decide)), (by show Sx.Own _ _ _ _; rw [show Inv.add L 41 58 = false from f58, show Inv.add L 41 60 = false from f60]; exact H)⟩⟩
        · show Sx.StepAt _ _ _ _ _ _ _ 42
          intro L A w up hun hd F ⟨v1, v2, p58, p60, H⟩
          have f44 : L 44 = false := up 44 42 rfl hun
          have f47 : L 47 = false := up 47 44 rfl f44
          have f53 : L 53 = false := up 53 47 rfl f47
          have f56 : L 56 = false := up 56 53 rfl f53
          have f58 : L 58 = false := up 58 56 rfl f56
          have f60 : L 60 = false := up 60 56 rfl f56
          rw [f58, f60] at H
          have F := Sx.Fr.to F (kv' := [(151, .agg #[.int .u64 ((Wd.hi da).toNat), .int .u64 ((Wd.lo da).toNat)]), (150, .bool true)]) ⟨rfl, rfl, trivial⟩
          refine Sx.step_ong rfl (Sx.guard_known (d := 150) (b := true) F rfl rfl) rfl (Sx.d_call (vs := [.agg #[.int .u64 ((Wd.hi da).toNat), .int .u64 ((Wd.lo da).toNat)]]) (v := .int .i64 (Bi.len da)) if_19 F H rfl rfl (wlen_c da _)) ?_
          rintro xv w' ⟨hx, H⟩
          exact ⟨(fun cv hc => hx.trans (Option.some.inj (Option.some.inj hc))), ⟨v1, v2, (fun h => absurd (show L 58 = true from h) (by rw [f58]; decide)), (fun h => absurd (show L 60 = true from h) (by rw [f60]; decide)), (by show Sx.Own _ _ _ _; rw [show Inv.add L 42 58 = false from f58, show Inv.add L 42 60 = false from f60]; exact H)⟩⟩
        · show Sx.StepAt _ _ _ _ _ _ _ 43
          intro L A w up hun hd F ⟨v1, v2, p58, p60, H⟩
          have f44 : L 44 = false := up 44 43 rfl hun
          have f47 : L 47 = false := up 47 44 rfl f44
          have f53 : L 53 = false := up 53 47 rfl f47
          have f56 : L 56 = false := up 56 53 rfl f53
          have f58 : L 58 = false := up 58 56 rfl f56
          have f60 : L 60 = false := up 60 56 rfl f56
          rw [f58, f60] at H
          have F := Sx.Fr.to F (kv' := [(9, .pointer (some ⟨g3, 0, none⟩)), (150, .bool true)]) ⟨rfl, rfl, trivial⟩
          refine Sx.step_ong rfl (Sx.guard_known (d := 150) (b := true) F rfl rfl) rfl (Sx.d_load (i := 8) (xs := [.int .u64 ((Wd.hi da).toNat), .int .u64 ((Wd.lo da).toNat)]) rw_43 F H rfl rfl rfl rfl rfl) ?_
          rintro xv w' ⟨hx, rfl⟩
          exact ⟨(fun cv hc => hx.trans (Option.some.inj (Option.some.inj hc))), ⟨v1, v2, (fun h => absurd (show L 58 = true from h) (by rw [f58]; decide)), (fun h => absurd (show L 60 = true from h) (by rw [f60]; decide)), (by show Sx.Own _ _ _ _; rw [show Inv.add L 43 58 = false from f58, show Inv.add L 43 60 = false from f60]; exact H)⟩⟩
        · show Sx.StepAt _ _ _ _ _ _ _ 44
          intro L A w up hun hd F ⟨v1, v2, p58, p60, H⟩
          have f47 : L 47 = false := up 47 44 rfl hun
          have f53 : L 53 = false := up 53 47 rfl f47
          have f56 : L 56 = false := up 56 53 rfl f53
          have f58 : L 58 = false := up 58 56 rfl f56
          have f60 : L 60 = false := up 60 56 rfl f56
          rw [f58, f60] at H
          have F := Sx.Fr.to F (kv' := [(153, .agg #[.int .u64 ((Wd.hi da).toNat), .int .u64 ((Wd.lo da).toNat)]), (150, .bool true)]) ⟨rfl, rfl, trivial⟩
          refine Sx.step_ong rfl (Sx.guard_known (d := 150) (b := true) F rfl rfl) rfl (Sx.d_call (vs := [.agg #[.int .u64 ((Wd.hi da).toNat), .int .u64 ((Wd.lo da).toNat)]]) (v := .int .i64 (Bi.len da)) if_31 F H rfl rfl (rlen_c da _)) ?_
          rintro xv w' ⟨hx, H⟩
          exact ⟨(fun cv hc => hx.trans (Option.some.inj (Option.some.inj hc))), ⟨v1, v2, (fun h => absurd (show L 58 = true from h) (by rw [f58]; decide)), (fun h => absurd (show L 60 = true from h) (by rw [f60]; decide)), (by show Sx.Own _ _ _ _; rw [show Inv.add L 44 58 = false from f58, show Inv.add L 44 60 = false from f60]; exact H)⟩⟩
        · show Sx.StepAt _ _ _ _ _ _ _ 45
          intro L A w up hun hd F ⟨v1, v2, p58, p60, H⟩
          have f46 : L 46 = false := up 46 45 rfl hun
          have f47 : L 47 = false := up 47 46 rfl f46
          have f53 : L 53 = false := up 53 47 rfl f47
          have f56 : L 56 = false := up 56 53 rfl f53
          have f58 : L 58 = false := up 58 56 rfl f56
          have f60 : L 60 = false := up 60 56 rfl f56
          rw [f58, f60] at H
          have F := Sx.Fr.to F (kv' := [(152, .int .i64 (Bi.len da)), (154, .int .i64 (Bi.len da)), (150, .bool true)]) ⟨rfl, rfl, rfl, trivial⟩
          refine Sx.step_ong rfl (Sx.guard_known (d := 150) (b := true) F rfl rfl) rfl (Sx.d_bin (v := .bool true) F rfl rfl rfl (Sx.i_eq (by simp))) ?_
          rintro xv w' ⟨hx, rfl⟩
          exact ⟨(fun cv hc => hx.trans (Option.some.inj (Option.some.inj hc))), ⟨v1, v2, (fun h => absurd (show L 58 = true from h) (by rw [f58]; decide)), (fun h => absurd (show L 60 = true from h) (by rw [f60]; decide)), (by show Sx.Own _ _ _ _; rw [show Inv.add L 45 58 = false from f58, show Inv.add L 45 60 = false from f60]; exact H)⟩⟩
        · show Sx.StepAt _ _ _ _ _ _ _ 46
          intro L A w up hun hd F ⟨v1, v2, p58, p60, H⟩
          have f47 : L 47 = false := up 47 46 rfl hun
          have f53 : L 53 = false := up 53 47 rfl f47
          have f56 : L 56 = false := up 56 53 rfl f53
          have f58 : L 58 = false := up 58 56 rfl f56
          have f60 : L 60 = false := up 60 56 rfl f56
          rw [f58, f60] at H
          have F := Sx.Fr.to F (kv' := [(150, .bool true), (155, .bool true)]) ⟨rfl, rfl, trivial⟩
          refine Sx.step_on rfl (Sx.d_pickT (v := .bool true) F rfl rfl rfl) ?_
          rintro xv w' ⟨hx, rfl⟩
          exact ⟨(fun cv hc => hx.trans (Option.some.inj (Option.some.inj hc))), ⟨v1, v2, (fun h => absurd (show L 58 = true from h) (by rw [f58]; decide)), (fun h => absurd (show L 60 = true from h) (by rw [f60]; decide)), (by show Sx.Own _ _ _ _; rw [show Inv.add L 46 58 = false from f58, show Inv.add L 46 60 = false from f60]; exact H)⟩⟩
        · show Sx.StepAt _ _ _ _ _ _ _ 47
          intro L A w up hun hd F ⟨v1, v2, p58, p60, H⟩
          have f53 : L 53 = false := up 53 47 rfl hun
          have f56 : L 56 = false := up 56 53 rfl f53
          have f58 : L 58 = false := up 58 56 rfl f56
          have f60 : L 60 = false := up 60 56 rfl f56
          rw [f58, f60] at H
          have F := Sx.Fr.to F (kv' := [(156, .bool true)]) ⟨rfl, trivial⟩
          refine Sx.step_on rfl (Sx.d_move F (Or.inl rfl) rfl) ?_
          rintro xv w' ⟨hx, rfl⟩
          exact ⟨(fun cv hc => hx.trans (Option.some.inj (Option.some.inj hc))), ⟨v1, v2, (fun h => absurd (show L 58 = true from h) (by rw [f58]; decide)), (fun h => absurd (show L 60 = true from h) (by rw [f60]; decide)), (by show Sx.Own _ _ _ _; rw [show Inv.add L 47 58 = false from f58, show Inv.add L 47 60 = false from f60]; exact H)⟩⟩
        · show Sx.StepAt _ _ _ _ _ _ _ 48
          intro L A w up hun hd F ⟨v1, v2, p58, p60, H⟩
          have f50 : L 50 = false := up 50 48 rfl hun
          have f53 : L 53 = false := up 53 50 rfl f50
          have f56 : L 56 = false := up 56 53 rfl f53
          have f58 : L 58 = false := up 58 56 rfl f56
          have f60 : L 60 = false := up 60 56 rfl f56
          rw [f58, f60] at H
          have F := Sx.Fr.to F (kv' := [(4, .pointer (some ⟨g1, 0, none⟩)), (157, .bool true)]) ⟨rfl, rfl, trivial⟩
          refine Sx.step_ong rfl (Sx.guard_known (d := 157) (b := true) F rfl rfl) rfl (Sx.d_load (i := 7) (xs := [.int .u64 ((Wd.hi da).toNat), .int .u64 ((Wd.lo da).toNat)]) rw_24 F H rfl rfl rfl rfl rfl) ?_
          rintro xv w' ⟨hx, rfl⟩
          exact ⟨(fun cv hc => hx.trans (Option.some.inj (Option.some.inj hc))), ⟨v1, v2, (fun h => absurd (show L 58 = true from h) (by rw [f58]; decide)), (fun h => absurd (show L 60 = true from h) (by rw [f60]; decide)), (by show Sx.Own _ _ _ _; rw [show Inv.add L 48 58 = false from f58, show Inv.add L 48 60 = false from f60]; exact H)⟩⟩
        · show Sx.StepAt _ _ _ _ _ _ _ 49
          intro L A w up hun hd F ⟨v1, v2, p58, p60, H⟩
          have f50 : L 50 = false := up 50 49 rfl hun
          have f53 : L 53 = false := up 53 50 rfl f50
          have f56 : L 56 = false := up 56 53 rfl f53
          have f58 : L 58 = false := up 58 56 rfl f56
          have f60 : L 60 = false := up 60 56 rfl f56
          rw [f58, f60] at H
          have F := Sx.Fr.to F (kv' := [(2, .int .i64 n), (157, .bool true)]) ⟨rfl, rfl, trivial⟩
          refine Sx.step_ong rfl (Sx.guard_known (d := 157) (b := true) F rfl rfl) rfl (Sx.d_move F (Or.inl rfl) rfl) ?_
          rintro xv w' ⟨hx, rfl⟩
          exact ⟨(fun cv hc => hx.trans (Option.some.inj (Option.some.inj hc))), ⟨v1, v2, (fun h => absurd (show L 58 = true from h) (by rw [f58]; decide)), (fun h => absurd (show L 60 = true from h) (by rw [f60]; decide)), (by show Sx.Own _ _ _ _; rw [show Inv.add L 49 58 = false from f58, show Inv.add L 49 60 = false from f60]; exact H)⟩⟩
        · show Sx.StepAt _ _ _ _ _ _ _ 50
          intro L A w up hun hd F ⟨v1, v2, p58, p60, H⟩
          have f53 : L 53 = false := up 53 50 rfl hun
          have f56 : L 56 = false := up 56 53 rfl f53
          have f58 : L 58 = false := up 58 56 rfl f56
          have f60 : L 60 = false := up 60 56 rfl f56
          rw [f58, f60] at H
          have F := Sx.Fr.to F (kv' := [(158, .agg #[.int .u64 ((Wd.hi da).toNat), .int .u64 ((Wd.lo da).toNat)]), (159, .int .i64 n), (157, .bool true)]) ⟨rfl, rfl, rfl, trivial⟩
          refine Sx.step_ong rfl (Sx.guard_known (d := 157) (b := true) F rfl rfl) rfl (Sx.d_call (vs := [.agg #[.int .u64 ((Wd.hi da).toNat), .int .u64 ((Wd.lo da).toNat)], .int .i64 n]) (v := .int .i64 (Wd.bitI da n)) if_18 F H rfl rfl (wbitI_c da n (by omega) _)) ?_
          rintro xv w' ⟨hx, H⟩
          exact ⟨(fun cv hc => hx.trans (Option.some.inj (Option.some.inj hc))), ⟨v1, v2, (fun h => absurd (show L 58 = true from h) (by rw [f58]; decide)), (fun h => absurd (show L 60 = true from h) (by rw [f60]; decide)), (by show Sx.Own _ _ _ _; rw [show Inv.add L 50 58 = false from f58, show Inv.add L 50 60 = false from f60]; exact H)⟩⟩
        · show Sx.StepAt _ _ _ _ _ _ _ 51
          intro L A w up hun hd F ⟨v1, v2, p58, p60, H⟩
          have f53 : L 53 = false := up 53 51 rfl hun
          have f56 : L 56 = false := up 56 53 rfl f53
          have f58 : L 58 = false := up 58 56 rfl f56
          have f60 : L 60 = false := up 60 56 rfl f56
          rw [f58, f60] at H
          have F := Sx.Fr.to F (kv' := [(9, .pointer (some ⟨g3, 0, none⟩)), (157, .bool true)]) ⟨rfl, rfl, trivial⟩
          refine Sx.step_ong rfl (Sx.guard_known (d := 157) (b := true) F rfl rfl) rfl (Sx.d_load (i := 8) (xs := [.int .u64 ((Wd.hi da).toNat), .int .u64 ((Wd.lo da).toNat)]) rw_43 F H rfl rfl rfl rfl rfl) ?_
          rintro xv w' ⟨hx, rfl⟩
          exact ⟨(fun cv hc => hx.trans (Option.some.inj (Option.some.inj hc))), ⟨v1, v2, (fun h => absurd (show L 58 = true from h) (by rw [f58]; decide)), (fun h => absurd (show L 60 = true from h) (by rw [f60]; decide)), (by show Sx.Own _ _ _ _; rw [show Inv.add L 51 58 = false from f58, show Inv.add L 51 60 = false from f60]; exact H)⟩⟩
        · show Sx.StepAt _ _ _ _ _ _ _ 52
          intro L A w up hun hd F ⟨v1, v2, p58, p60, H⟩
          have f53 : L 53 = false := up 53 52 rfl hun
          have f56 : L 56 = false := up 56 53 rfl f53
          have f58 : L 58 = false := up 58 56 rfl f56
          have f60 : L 60 = false := up 60 56 rfl f56
          rw [f58, f60] at H
          have F := Sx.Fr.to F (kv' := [(2, .int .i64 n), (157, .bool true)]) ⟨rfl, rfl, trivial⟩
          refine Sx.step_ong rfl (Sx.guard_known (d := 157) (b := true) F rfl rfl) rfl (Sx.d_move F (Or.inl rfl) rfl) ?_
          rintro xv w' ⟨hx, rfl⟩
          exact ⟨(fun cv hc => hx.trans (Option.some.inj (Option.some.inj hc))), ⟨v1, v2, (fun h => absurd (show L 58 = true from h) (by rw [f58]; decide)), (fun h => absurd (show L 60 = true from h) (by rw [f60]; decide)), (by show Sx.Own _ _ _ _; rw [show Inv.add L 52 58 = false from f58, show Inv.add L 52 60 = false from f60]; exact H)⟩⟩
        · show Sx.StepAt _ _ _ _ _ _ _ 53
          intro L A w up hun hd F ⟨v1, v2, p58, p60, H⟩
          have f56 : L 56 = false := up 56 53 rfl hun
          have f58 : L 58 = false := up 58 56 rfl f56
          have f60 : L 60 = false := up 60 56 rfl f56
          rw [f58, f60] at H
          have F := Sx.Fr.to F (kv' := [(161, .agg #[.int .u64 ((Wd.hi da).toNat), .int .u64 ((Wd.lo da).toNat)]), (162, .int .i64 n), (157, .bool true)]) ⟨rfl, rfl, rfl, trivial⟩
          refine Sx.step_ong rfl (Sx.guard_known (d := 157) (b := true) F rfl rfl) rfl (Sx.d_call (vs := [.agg #[.int .u64 ((Wd.hi da).toNat), .int .u64 ((Wd.lo da).toNat)], .int .i64 n]) (v := .int .i64 (Wd.bitI da n)) if_32 F H rfl rfl (rbitI_c da n _)) ?_
          rintro xv w' ⟨hx, H⟩
          exact ⟨(fun cv hc => hx.trans (Option.some.inj (Option.some.inj hc))), ⟨v1, v2, (fun h => absurd (show L 58 = true from h) (by rw [f58]; decide)), (fun h => absurd (show L 60 = true from h) (by rw [f60]; decide)), (by show Sx.Own _ _ _ _; rw [show Inv.add L 53 58 = false from f58, show Inv.add L 53 60 = false from f60]; exact H)⟩⟩
        · show Sx.StepAt _ _ _ _ _ _ _ 54
          intro L A w up hun hd F ⟨v1, v2, p58, p60, H⟩
          have f55 : L 55 = false := up 55 54 rfl hun
          have f56 : L 56 = false := up 56 55 rfl f55
          have f58 : L 58 = false := up 58 56 rfl f56
          have f60 : L 60 = false := up 60 56 rfl f56
          rw [f58, f60] at H
          have F := Sx.Fr.to F (kv' := [(160, .int .i64 (Wd.bitI da n)), (163, .int .i64 (Wd.bitI da n)), (157, .bool true)]) ⟨rfl, rfl, rfl, trivial⟩
          refine Sx.step_ong rfl (Sx.guard_known (d := 157) (b := true) F rfl rfl) rfl (Sx.d_bin (v := .bool true) F rfl rfl rfl (Sx.i_eq (by simp))) ?_
          rintro xv w' ⟨hx, rfl⟩
          exact ⟨(fun cv hc => hx.trans (Option.some.inj (Option.some.inj hc))), ⟨v1, v2, (fun h => absurd (show L 58 = true from h) (by rw [f58]; decide)), (fun h => absurd (show L 60 = true from h) (by rw [f60]; decide)), (by show Sx.Own _ _ _ _; rw [show Inv.add L 54 58 = false from f58, show Inv.add L 54 60 = false from f60]; exact H)⟩⟩
        · show Sx.StepAt _ _ _ _ _ _ _ 55
          intro L A w up hun hd F ⟨v1, v2, p58, p60, H⟩
          have f56 : L 56 = false := up 56 55 rfl hun
          have f58 : L 58 = false := up 58 56 rfl f56
          have f60 : L 60 = false := up 60 56 rfl f56
          rw [f58, f60] at H
          have F := Sx.Fr.to F (kv' := [(157, .bool true), (164, .bool true)]) ⟨rfl, rfl, trivial⟩
          refine Sx.step_on rfl (Sx.d_pickT (v := .bool true) F rfl rfl rfl) ?_
          rintro xv w' ⟨hx, rfl⟩
          exact ⟨(fun cv hc => hx.trans (Option.some.inj (Option.some.inj hc))), ⟨v1, v2, (fun h => absurd (show L 58 = true from h) (by rw [f58]; decide)), (fun h => absurd (show L 60 = true from h) (by rw [f60]; decide)), (by show Sx.Own _ _ _ _; rw [show Inv.add L 55 58 = false from f58, show Inv.add L 55 60 = false from f60]; exact H)⟩⟩
        · show Sx.StepAt _ _ _ _ _ _ _ 56
          intro L A w up hun hd F ⟨v1, v2, p58, p60, H⟩
          have f58 : L 58 = false := up 58 56 rfl hun
          have f60 : L 60 = false := up 60 56 rfl hun
          rw [f58, f60] at H
          have F := Sx.Fr.to F (kv' := [(165, .bool true)]) ⟨rfl, trivial⟩
          refine Sx.step_on rfl (Sx.d_move F (Or.inl rfl) rfl) ?_
          rintro xv w' ⟨hx, rfl⟩
          exact ⟨(fun cv hc => hx.trans (Option.some.inj (Option.some.inj hc))), ⟨v1, v2, (fun h => absurd (show L 58 = true from h) (by rw [f58]; decide)), (fun h => absurd (show L 60 = true from h) (by rw [f60]; decide)), (by show Sx.Own _ _ _ _; rw [show Inv.add L 56 58 = false from f58, show Inv.add L 56 60 = false from f60]; exact H)⟩⟩
        · show Sx.StepAt _ _ _ _ _ _ _ 57
          intro L A w up hun hd F ⟨v1, v2, p58, p60, H⟩
          have f58 : L 58 = false := up 58 57 rfl hun
          have f60 : L 60 = false := up 60 58 rfl f58
          rw [f58, f60] at H
          have F := Sx.Fr.to F (kv' := [(4, .pointer (some ⟨g1, 0, none⟩)), (166, .bool true)]) ⟨rfl, rfl, trivial⟩
          refine Sx.step_ong rfl (Sx.guard_known (d := 166) (b := true) F rfl rfl) rfl (Sx.d_load (i := 7) (xs := [.int .u64 ((Wd.hi da).toNat), .int .u64 ((Wd.lo da).toNat)]) rw_24 F H rfl rfl rfl rfl rfl) ?_
          rintro xv w' ⟨hx, rfl⟩
          exact ⟨(fun cv hc => hx.trans (Option.some.inj (Option.some.inj hc))), ⟨v1, v2, (fun h => absurd (show L 58 = true from h) (by rw [f58]; decide)), (fun h => absurd (show L 60 = true from h) (by rw [f60]; decide)), (by show Sx.Own _ _ _ _; rw [show Inv.add L 57 58 = false from f58, show Inv.add L 57 60 = false from f60]; exact H)⟩⟩
        · show Sx.StepAt _ _ _ _ _ _ _ 58
          intro L A w up hun hd F ⟨v1, v2, p58, p60, H⟩
          have f58 : L 58 = false := hun
          have f60 : L 60 = false := up 60 58 rfl hun
          rw [f58, f60] at H
          have F := Sx.Fr.to F (kv' := [(167, .agg #[.int .u64 ((Wd.hi da).toNat), .int .u64 ((Wd.lo da).toNat)]), (166, .bool true)]) ⟨rfl, rfl, trivial⟩
          refine Sx.step_ong rfl (Sx.guard_known (d := 166) (b := true) F rfl rfl) rfl (Sx.d_callR_at 0 (vs := [.agg #[.int .u64 ((Wd.hi da).toNat), .int .u64 ((Wd.lo da).toNat)]]) (mk := fun v => v) if_21 F H rfl rfl (wput_c da _)) ?_
          rintro xv w' ⟨v', hx, H⟩
          exact ⟨(fun cv hc => by have h := Option.some.inj hc; cases h), ⟨v', v2, (fun _ => (Sx.put_same F (by decide) _).trans hx), (fun h => absurd (show L 60 = true from h) (by rw [f60]; decide)), (by show Sx.Own _ _ _ _; rw [show Inv.add L 58 60 = false from f60]; exact H)⟩⟩
        · show Sx.StepAt _ _ _ _ _ _ _ 59
          intro L A w up hun hd F ⟨v1, v2, p58, p60, H⟩
          have f60 : L 60 = false := up 60 59 rfl hun
          rw [f60] at H
          have F := Sx.Fr.to F (kv' := [(9, .pointer (some ⟨g3, 0, none⟩)), (166, .bool true)]) ⟨rfl, rfl, trivial⟩
          refine Sx.step_ong rfl (Sx.guard_known (d := 166) (b := true) F rfl rfl) rfl (Sx.d_load (i := 8) (xs := [.int .u64 ((Wd.hi da).toNat), .int .u64 ((Wd.lo da).toNat)]) rw_43 F H rfl rfl rfl rfl rfl) ?_
          rintro xv w' ⟨hx, rfl⟩
          exact ⟨(fun cv hc => hx.trans (Option.some.inj (Option.some.inj hc))), ⟨v1, v2, (fun h => (Sx.put_ne rfl _).trans (p58 h)), (fun h => absurd (show L 60 = true from h) (by rw [f60]; decide)), (by show Sx.Own _ _ _ _; rw [show Inv.add L 59 60 = false from f60]; exact H)⟩⟩
        · show Sx.StepAt _ _ _ _ _ _ _ 60
          intro L A w up hun hd F ⟨v1, v2, p58, p60, H⟩
          have t58 : L 58 = true := hd 58 rfl
          have f60 : L 60 = false := hun
          rw [t58, f60] at H
          have F := Sx.Fr.to F (kv' := [(169, .agg #[.int .u64 ((Wd.hi da).toNat), .int .u64 ((Wd.lo da).toNat)]), (166, .bool true)]) ⟨rfl, rfl, trivial⟩
          have F := Sx.Fr.add F (p58 t58)
          refine Sx.step_ong rfl (Sx.guard_known (d := 166) (b := true) F rfl rfl) rfl (Sx.d_callR_at 1 (vs := [.agg #[.int .u64 ((Wd.hi da).toNat), .int .u64 ((Wd.lo da).toNat)]]) (mk := fun v => v) if_34 F H rfl rfl (rput_c da _)) ?_
          rintro xv w' ⟨v', hx, H⟩
          exact ⟨(fun cv hc => by have h := Option.some.inj hc; cases h), ⟨v1, v', (fun h => (Sx.put_ne rfl _).trans (p58 h)), (fun _ => (Sx.put_same F (by decide) _).trans hx), (by show Sx.Own _ _ _ _; rw [show Inv.add L 60 58 = true from t58]; exact H)⟩⟩
        · show Sx.StepAt _ _ _ _ _ _ _ 61
          intro L A w up hun hd F ⟨v1, v2, p58, p60, H⟩
          have t58 : L 58 = true := hd 58 rfl
          have t60 : L 60 = true := hd 60 rfl
          rw [t58, t60] at H
          have F := Sx.Fr.to F (kv' := [(166, .bool true)]) ⟨rfl, trivial⟩
          have F := Sx.Fr.add F (p58 t58)
          have F := Sx.Fr.add F (p60 t60)
          refine Sx.step_ong rfl (Sx.guard_known (d := 166) (b := true) F rfl rfl) rfl (Sx.d_call (vs := [v1, v2]) (v := .bool true) if_33 F H rfl rfl (rsame_c (By.put da) 16 _ _ _ (By.Rd.row (H.row 0 _ rfl rfl) (by decide)) (By.Rd.row (H.row 1 _ rfl rfl) (by decide)))) ?_
          rintro xv w' ⟨hx, H⟩
          exact ⟨(fun cv hc => hx.trans (Option.some.inj (Option.some.inj hc))), ⟨v1, v2, (fun h => (Sx.put_ne rfl _).trans (p58 h)), (fun h => (Sx.put_ne rfl _).trans (p60 h)), (by show Sx.Own _ _ _ _; rw [show Inv.add L 61 58 = true from t58, show Inv.add L 61 60 = true from t60]; exact H)⟩⟩
        · show Sx.StepAt _ _ _ _ _ _ _ 62
          intro L A w up hun hd F ⟨v1, v2, p58, p60, H⟩
          have t58 : L 58 = true := by
            cases hb : L 58 with
            | true => rfl
            | false =>
              have hb61 := up 61 58 rfl hb
              rw [hd 61 rfl] at hb61; cases hb61
          have t60 : L 60 = true := by
            cases hb : L 60 with
            | true => rfl
            | false =>
              have hb61 := up 61 60 rfl hb
              rw [hd 61 rfl] at hb61; cases hb61
          rw [t58, t60] at H
          have F := Sx.Fr.to F (kv' := [(166, .bool true), (171, .bool true)]) ⟨rfl, rfl, trivial⟩
          have F := Sx.Fr.add F (p58 t58)
          have F := Sx.Fr.add F (p60 t60)
          refine Sx.step_on rfl (Sx.d_pickT (v := .bool true) F rfl rfl rfl) ?_
          rintro xv w' ⟨hx, rfl⟩
          exact ⟨(fun cv hc => hx.trans (Option.some.inj (Option.some.inj hc))), ⟨v1, v2, (fun h => (Sx.put_ne rfl _).trans (p58 h)), (fun h => (Sx.put_ne rfl _).trans (p60 h)), (by show Sx.Own _ _ _ _; rw [show Inv.add L 62 58 = true from t58, show Inv.add L 62 60 = true from t60]; exact H)⟩⟩
        · show Sx.StepAt _ _ _ _ _ _ _ 63
          intro L A w up hun hd F ⟨v1, v2, p58, p60, H⟩
          have t58 : L 58 = true := by
            cases hb : L 58 with
            | true => rfl
            | false =>
              have hb61 := up 61 58 rfl hb
              rw [hd 61 rfl] at hb61; cases hb61
          have t60 : L 60 = true := by
            cases hb : L 60 with
            | true => rfl
            | false =>
              have hb61 := up 61 60 rfl hb
              rw [hd 61 rfl] at hb61; cases hb61
          rw [t58, t60] at H
          have F := Sx.Fr.to F (kv' := [(172, .bool true)]) ⟨rfl, trivial⟩
          have F := Sx.Fr.add F (p58 t58)
          have F := Sx.Fr.add F (p60 t60)
          refine Sx.step_on rfl (Sx.d_move F (Or.inl rfl) rfl) ?_
          rintro xv w' ⟨hx, rfl⟩
          exact ⟨(fun cv hc => hx.trans (Option.some.inj (Option.some.inj hc))), ⟨v1, v2, (fun h => (Sx.put_ne rfl _).trans (p58 h)), (fun h => (Sx.put_ne rfl _).trans (p60 h)), (by show Sx.Own _ _ _ _; rw [show Inv.add L 63 58 = true from t58, show Inv.add L 63 60 = true from t60]; exact H)⟩⟩
        · show Sx.StepAt _ _ _ _ _ _ _ 64
          intro L A w up hun hd F ⟨v1, v2, p58, p60, H⟩
          have t58 : L 58 = true := by
            cases hb : L 58 with
            | true => rfl
            | false =>
              have hb61 := up 61 58 rfl hb
              have hb63 := up 63 61 rfl hb61
              rw [hd 63 rfl] at hb63; cases hb63
          have t60 : L 60 = true := by
            cases hb : L 60 with
            | true => rfl
            | false =>
              have hb61 := up 61 60 rfl hb
              have hb63 := up 63 61 rfl hb61
              rw [hd 63 rfl] at hb63; cases hb63
          rw [t58, t60] at H
          have F := Sx.Fr.to F (kv' := [(4, .pointer (some ⟨g1, 0, none⟩)), (173, .bool true)]) ⟨rfl, rfl, trivial⟩
          have F := Sx.Fr.add F (p58 t58)
          have F := Sx.Fr.add F (p60 t60)
          refine Sx.step_ong rfl (Sx.guard_known (d := 173) (b := true) F rfl rfl) rfl (Sx.d_load (i := 7) (xs := [.int .u64 ((Wd.hi da).toNat), .int .u64 ((Wd.lo da).toNat)]) rw_24 F H rfl rfl rfl rfl rfl) ?_
          rintro xv w' ⟨hx, rfl⟩
          exact ⟨(fun cv hc => hx.trans (Option.some.inj (Option.some.inj hc))), ⟨v1, v2, (fun h => (Sx.put_ne rfl _).trans (p58 h)), (fun h => (Sx.put_ne rfl _).trans (p60 h)), (by show Sx.Own _ _ _ _; rw [show Inv.add L 64 58 = true from t58, show Inv.add L 64 60 = true from t60]; exact H)⟩⟩
        · show Sx.StepAt _ _ _ _ _ _ _ 65
          intro L A w up hun hd F ⟨v1, v2, p58, p60, H⟩
          have t58 : L 58 = true := by
            cases hb : L 58 with
            | true => rfl
            | false =>
              have hb61 := up 61 58 rfl hb
              have hb63 := up 63 61 rfl hb61
              rw [hd 63 rfl] at hb63; cases hb63
          have t60 : L 60 = true := by
            cases hb : L 60 with
            | true => rfl
            | false =>
              have hb61 := up 61 60 rfl hb
              have hb63 := up 63 61 rfl hb61
              rw [hd 63 rfl] at hb63; cases hb63
          rw [t58, t60] at H
          have F := Sx.Fr.to F (kv' := [(174, .agg #[.int .u64 ((Wd.hi da).toNat), .int .u64 ((Wd.lo da).toNat)]), (173, .bool true)]) ⟨rfl, rfl, trivial⟩
          have F := Sx.Fr.add F (p58 t58)
          have F := Sx.Fr.add F (p60 t60)
          refine Sx.step_ong rfl (Sx.guard_known (d := 173) (b := true) F rfl rfl) rfl (Sx.d_call (vs := [.agg #[.int .u64 ((Wd.hi da).toNat), .int .u64 ((Wd.lo da).toNat)]]) (v := .string (Dg.str da.toNat)) if_22 F H rfl rfl (wprint_c da _)) ?_
          rintro xv w' ⟨hx, H⟩
          exact ⟨(fun cv hc => hx.trans (Option.some.inj (Option.some.inj hc))), ⟨v1, v2, (fun h => (Sx.put_ne rfl _).trans (p58 h)), (fun h => (Sx.put_ne rfl _).trans (p60 h)), (by show Sx.Own _ _ _ _; rw [show Inv.add L 65 58 = true from t58, show Inv.add L 65 60 = true from t60]; exact H)⟩⟩
        · show Sx.StepAt _ _ _ _ _ _ _ 66
          intro L A w up hun hd F ⟨v1, v2, p58, p60, H⟩
          have t58 : L 58 = true := by
            cases hb : L 58 with
            | true => rfl
            | false =>
              have hb61 := up 61 58 rfl hb
              have hb63 := up 63 61 rfl hb61
              rw [hd 63 rfl] at hb63; cases hb63
          have t60 : L 60 = true := by
            cases hb : L 60 with
            | true => rfl
            | false =>
              have hb61 := up 61 60 rfl hb
              have hb63 := up 63 61 rfl hb61
              rw [hd 63 rfl] at hb63; cases hb63
          rw [t58, t60] at H
          have F := Sx.Fr.to F (kv' := [(9, .pointer (some ⟨g3, 0, none⟩)), (173, .bool true)]) ⟨rfl, rfl, trivial⟩
          have F := Sx.Fr.add F (p58 t58)
          have F := Sx.Fr.add F (p60 t60)
          refine Sx.step_ong rfl (Sx.guard_known (d := 173) (b := true) F rfl rfl) rfl (Sx.d_load (i := 8) (xs := [.int .u64 ((Wd.hi da).toNat), .int .u64 ((Wd.lo da).toNat)]) rw_43 F H rfl rfl rfl rfl rfl) ?_
          rintro xv w' ⟨hx, rfl⟩
          exact ⟨(fun cv hc => hx.trans (Option.some.inj (Option.some.inj hc))), ⟨v1, v2, (fun h => (Sx.put_ne rfl _).trans (p58 h)), (fun h => (Sx.put_ne rfl _).trans (p60 h)), (by show Sx.Own _ _ _ _; rw [show Inv.add L 66 58 = true from t58, show Inv.add L 66 60 = true from t60]; exact H)⟩⟩
        · show Sx.StepAt _ _ _ _ _ _ _ 67
          intro L A w up hun hd F ⟨v1, v2, p58, p60, H⟩
          have t58 : L 58 = true := by
            cases hb : L 58 with
            | true => rfl
            | false =>
              have hb61 := up 61 58 rfl hb
              have hb63 := up 63 61 rfl hb61
              rw [hd 63 rfl] at hb63; cases hb63
          have t60 : L 60 = true := by
            cases hb : L 60 with
            | true => rfl
            | false =>
              have hb61 := up 61 60 rfl hb
              have hb63 := up 63 61 rfl hb61
              rw [hd 63 rfl] at hb63; cases hb63
          rw [t58, t60] at H
          have F := Sx.Fr.to F (kv' := [(176, .agg #[.int .u64 ((Wd.hi da).toNat), .int .u64 ((Wd.lo da).toNat)]), (173, .bool true)]) ⟨rfl, rfl, trivial⟩
          have F := Sx.Fr.add F (p58 t58)
          have F := Sx.Fr.add F (p60 t60)
          refine Sx.step_ong rfl (Sx.guard_known (d := 173) (b := true) F rfl rfl) rfl (Sx.d_call (vs := [.agg #[.int .u64 ((Wd.hi da).toNat), .int .u64 ((Wd.lo da).toNat)]]) (v := .string (Dg.str da.toNat)) if_35 F H rfl rfl (rprint_c da _)) ?_
          rintro xv w' ⟨hx, H⟩
          exact ⟨(fun cv hc => hx.trans (Option.some.inj (Option.some.inj hc))), ⟨v1, v2, (fun h => (Sx.put_ne rfl _).trans (p58 h)), (fun h => (Sx.put_ne rfl _).trans (p60 h)), (by show Sx.Own _ _ _ _; rw [show Inv.add L 67 58 = true from t58, show Inv.add L 67 60 = true from t60]; exact H)⟩⟩
        · show Sx.StepAt _ _ _ _ _ _ _ 68
          intro L A w up hun hd F ⟨v1, v2, p58, p60, H⟩
          have t58 : L 58 = true := by
            cases hb : L 58 with
            | true => rfl
            | false =>
              have hb61 := up 61 58 rfl hb
              have hb63 := up 63 61 rfl hb61
              rw [hd 63 rfl] at hb63; cases hb63
          have t60 : L 60 = true := by
            cases hb : L 60 with
            | true => rfl
            | false =>
              have hb61 := up 61 60 rfl hb
              have hb63 := up 63 61 rfl hb61
              rw [hd 63 rfl] at hb63; cases hb63
          rw [t58, t60] at H
          have F := Sx.Fr.to F (kv' := [(175, .string (Dg.str da.toNat)), (177, .string (Dg.str da.toNat)), (173, .bool true)]) ⟨rfl, rfl, rfl, trivial⟩
          have F := Sx.Fr.add F (p58 t58)
          have F := Sx.Fr.add F (p60 t60)
          refine Sx.step_ong rfl (Sx.guard_known (d := 173) (b := true) F rfl rfl) rfl (Sx.d_bin (v := .bool true) F rfl rfl rfl (Sx.i_seq (beq_self_eq_true _))) ?_
          rintro xv w' ⟨hx, rfl⟩
          exact ⟨(fun cv hc => hx.trans (Option.some.inj (Option.some.inj hc))), ⟨v1, v2, (fun h => (Sx.put_ne rfl _).trans (p58 h)), (fun h => (Sx.put_ne rfl _).trans (p60 h)), (by show Sx.Own _ _ _ _; rw [show Inv.add L 68 58 = true from t58, show Inv.add L 68 60 = true from t60]; exact H)⟩⟩
        · show Sx.StepAt _ _ _ _ _ _ _ 69
          intro L A w up hun hd F ⟨v1, v2, p58, p60, H⟩
          have t58 : L 58 = true := by
            cases hb : L 58 with
            | true => rfl
            | false =>
              have hb61 := up 61 58 rfl hb
              have hb63 := up 63 61 rfl hb61
              rw [hd 63 rfl] at hb63; cases hb63
          have t60 : L 60 = true := by
            cases hb : L 60 with
            | true => rfl
            | false =>
              have hb61 := up 61 60 rfl hb
              have hb63 := up 63 61 rfl hb61
              rw [hd 63 rfl] at hb63; cases hb63
          rw [t58, t60] at H
          have F := Sx.Fr.to F (kv' := [(173, .bool true), (178, .bool true)]) ⟨rfl, rfl, trivial⟩
          have F := Sx.Fr.add F (p58 t58)
          have F := Sx.Fr.add F (p60 t60)
          refine Sx.step_on rfl (Sx.d_pickT (v := .bool true) F rfl rfl rfl) ?_
          rintro xv w' ⟨hx, rfl⟩
          exact ⟨(fun cv hc => hx.trans (Option.some.inj (Option.some.inj hc))), ⟨v1, v2, (fun h => (Sx.put_ne rfl _).trans (p58 h)), (fun h => (Sx.put_ne rfl _).trans (p60 h)), (by show Sx.Own _ _ _ _; rw [show Inv.add L 69 58 = true from t58, show Inv.add L 69 60 = true from t60]; exact H)⟩⟩
        · show Sx.StepAt _ _ _ _ _ _ _ 70
          intro L A w up hun hd F ⟨v1, v2, p58, p60, H⟩
          have t58 : L 58 = true := hd 58 rfl
          have t60 : L 60 = true := hd 60 rfl
          rw [t58, t60] at H
          have F := Sx.Fr.to F (kv' := [(179, .bool true)]) ⟨rfl, trivial⟩
          have F := Sx.Fr.add F (p58 t58)
          have F := Sx.Fr.add F (p60 t60)
          refine Sx.step_on rfl (Sx.d_move F (Or.inr rfl) rfl) ?_
          rintro xv w' ⟨hx, rfl⟩
          exact ⟨(fun cv hc => hx.trans (Option.some.inj (Option.some.inj hc))), ⟨v1, v2, (fun h => (Sx.put_ne rfl _).trans (p58 h)), (fun h => (Sx.put_ne rfl _).trans (p60 h)), (by show Sx.Own _ _ _ _; rw [show Inv.add L 70 58 = true from t58, show Inv.add L 70 60 = true from t60]; exact H)⟩⟩
      · intro L A w hL F ⟨v1, v2, p58, p60, H⟩
        have t58 : L 58 = true := hL 58 rfl
        have t60 : L 60 = true := hL 60 rfl
        rw [t58, t60] at H
        have F := Sx.Fr.add F (p58 t58)
        have F := Sx.Fr.add F (p60 t60)
        have F := Sx.Fr.to F (kv' := [(8, .bool true)]) ⟨rfl, trivial⟩
        refine hK15 _ _ ?_
        refine wp_ret ?_
        try dsimp only [Exit.then, Exit.inBlock, Exit.jump]
        refine Sx.ret1 F Try.results6 (Sx.res_tmp (v := .bool true) F rfl) ⟨?_, H.below⟩
        rfl
end Go.Proofs.Ytpbdffmgendboab
