/- The reference's Word, Of walked. -/
import Derived.Test.YtpbdffmgendboabSl5
import Derived.Test.YtpbdffmgendboabLs
namespace Go.Proofs.Ytpbdffmgendboab
open Go Go.RowKit
theorem Bi.mul2 (g : Nat → Bool) (t : Nat) : BitVec.ofNat 64 (Bi.num g t) * 2#64 = BitVec.ofNat 64 (2 * Bi.num g t) := by
  apply BitVec.eq_of_toNat_eq
  rw [BitVec.toNat_mul, BitVec.toNat_ofNat, BitVec.toNat_ofNat, BitVec.toNat_ofNat]; omega
theorem Bi.add1 (g : Nat → Bool) (t : Nat) (b : Bool) (h : g (63 - t) = b) : BitVec.ofNat 64 (2 * Bi.num g t) + BitVec.ofNat 64 b.toNat = BitVec.ofNat 64 (Bi.num g (t + 1)) := by
  subst h
  apply BitVec.eq_of_toNat_eq
  rw [BitVec.toNat_add, BitVec.toNat_ofNat, BitVec.toNat_ofNat, BitVec.toNat_ofNat, show Bi.num g (t + 1) = 2 * Bi.num g t + (g (63 - t)).toNat from rfl]; omega
theorem Bi.i_mul2 {P : Program} {w : World} {x y : Operand} {T : TypeId} (g : Nat → Bool) (t : Nat) : (do eqGuard .mul T x y (.int .u64 (BitVec.ofNat 64 (Bi.num g t)).toNat) (.int .u64 2); binOp .mul T (.int .u64 (BitVec.ofNat 64 (Bi.num g t)).toNat) (.int .u64 2) : Sem Value).run P w = .ok (.int .u64 (BitVec.ofNat 64 (2 * Bi.num g t)).toNat) w := by
  have h := Sx.i_mul64 (P := P) (x := x) (y := y) (T := T) (w := w) (BitVec.ofNat 64 (Bi.num g t)) 2#64
  rw [Bi.mul2] at h; exact h
theorem Bi.i_add1 {P : Program} {w : World} {x y : Operand} {T : TypeId} (g : Nat → Bool) (t : Nat) (b : Bool) (hb : g (63 - t) = b) : (do eqGuard .add T x y (.int .u64 (BitVec.ofNat 64 (2 * Bi.num g t)).toNat) (.int .u64 (BitVec.ofNat 64 b.toNat).toNat); binOp .add T (.int .u64 (BitVec.ofNat 64 (2 * Bi.num g t)).toNat) (.int .u64 (BitVec.ofNat 64 b.toNat).toNat) : Sem Value).run P w = .ok (.int .u64 (BitVec.ofNat 64 (Bi.num g (t + 1))).toNat) w := by
  have h := Sx.i_add64 (P := P) (x := x) (y := y) (T := T) (w := w) (BitVec.ofNat 64 (2 * Bi.num g t)) (BitVec.ofNat 64 b.toNat)
  rw [Bi.add1 g t b hb] at h; exact h
set_option maxRecDepth 100000 in
theorem rword_s (f : Nat → Bool) (len : Nat) (hl : len ≤ 1000000) (ad : Option Addr) (cap fr : Nat) (hf : fr ≤ 1000000) (w0 : World) (hc : ∀ k, k < len → ∃ g o, ad = some ⟨g, o, none⟩ ∧ w0.cell? ⟨g, o + k, none⟩ = some (.int .i64 ((f k).toNat : Nat))) : Calls Try.prog 71 #[.slice ad len cap, .int .i64 fr] w0 fun e w' => e = .returned (.int .u64 ((Bi.word (Bi.from_ f len fr)).toNat)) ∧ Below w0.heap.size w0 w' := by
  refine Sx.enter (args := [.slice ad len cap, .int .i64 fr]) Try.func71 rfl Try.ntmps71 (Nat.le_of_ble_eq_true rfl) (fun A F => ?_)
  have H := Sx.Own.start w0
  refine Sx.seq (fun K1 hK1 => ?_)
  refine Sx.plain ?_
  refine Sx.sv F (Sx.d_move F (Or.inr rfl) rfl) (Sx.wanted_none rfl _) rfl (by decide) (fun A F => ?_)
  refine Sx.nil ?_
  refine hK1 _ _ ?_
  refine Sx.seq (fun K2 hK2 => ?_)
  refine Sx.plain ?_
  refine Sx.sv F (Sx.d_move F (Or.inr rfl) rfl) (Sx.wanted_none rfl _) rfl (by decide) (fun A F => ?_)
  refine Sx.nil ?_
  refine hK2 _ _ ?_
  refine Sx.seq (fun K3 hK3 => ?_)
  refine Sx.seq (fun K4 hK4 => ?_)
  refine Sx.plain ?_
  refine Sx.sv F (Sx.d_move F (Or.inr rfl) rfl) (Sx.wanted_none rfl _) rfl (by decide) (fun A F => ?_)
  refine Sx.nil ?_
  refine hK4 _ _ ?_
  refine wp_block ?_
  refine Sx.loop (fun q A w => ∃ t : Nat, q = 64 - t ∧ t ≤ 64 ∧ Sx.Fr 29 A [(0, .slice ad len cap), (1, .int .i64 fr), (5, .int .u64 ((BitVec.ofNat 64 (Bi.num (Bi.from_ f len fr) t)).toNat)), (6, .int .i64 (63 - (t : Int)))] ∧ Sx.Own w0 w [] []) 64 ⟨0, rfl, Nat.zero_le _, F.to ⟨rfl, rfl, rfl, rfl, trivial⟩, H⟩ ?_
  rintro q A w ⟨t, rfl, ht, F, H⟩
  by_cases hlt : t < 64
  · by_cases hin : fr + (63 - t) < len
    · skip
      obtain ⟨g, o, had, hcell⟩ := hc _ hin
      have hb : (Bi.from_ f len fr) (63 - t) = f (fr + (63 - t)) := by unfold Bi.from_; rw [decide_eq_true hin, Bool.true_and]
      refine Sx.seq (fun K5 hK5 => ?_)
      refine Sx.seq (fun K6 hK6 => ?_)
      refine Sx.plain ?_
      refine Sx.sv F (Sx.d_move F (Or.inl rfl) rfl) (Sx.wanted_none rfl _) rfl (by decide) (fun A F => ?_)
      refine Sx.sv F (Sx.d_bin (v := .bool true) F rfl rfl rfl (Sx.i_ge (decide_eq_true (by omega)))) (Sx.wanted_none rfl _) rfl (by decide) (fun A F => ?_)
      refine Sx.nil ?_
      refine hK6 _ _ ?_
      refine Sx.condT F rfl ?_
      refine wp_skip ?_
      refine hK5 _ _ ?_
      refine Sx.seq (fun K7 hK7 => ?_)
      refine wp_block ?_
      refine Sx.seq (fun K8 hK8 => ?_)
      refine Sx.plain ?_
      refine Sx.sv F (Sx.d_move F (Or.inl rfl) rfl) (Sx.wanted_none rfl _) rfl (by decide) (fun A F => ?_)
      refine Sx.sv F (Sx.d_bin (v := .int .u64 ((BitVec.ofNat 64 (2 * Bi.num (Bi.from_ f len fr) t)).toNat)) F rfl rfl rfl (Bi.i_mul2 _ _)) (Sx.wanted_none rfl _) rfl (by decide) (fun A F => ?_)
      refine Sx.sv F (Sx.d_move F (Or.inr rfl) rfl) (Sx.wanted_none rfl _) rfl (by decide) (fun A F => ?_)
      refine Sx.nil ?_
      refine hK8 _ _ ?_
      refine Sx.seq (fun K9 hK9 => ?_)
      refine Sx.plain ?_
      refine Sx.sv F (Sx.d_move F (Or.inl rfl) rfl) (Sx.wanted_none rfl _) rfl (by decide) (fun A F => ?_)
      refine Sx.sv F (Sx.d_move F (Or.inl rfl) rfl) (Sx.wanted_none rfl _) rfl (by decide) (fun A F => ?_)
      refine Sx.sv F (Sx.d_bin (v := .int .i64 ((fr + (63 - t) : Nat) : Int)) F rfl rfl rfl (Sx.i_addS (by rw [Sx.in64 _ (by omega)]; omega))) (Sx.wanted_none rfl _) rfl (by decide) (fun A F => ?_)
      refine Sx.sv F (Sx.d_move F (Or.inl rfl) rfl) (Sx.wanted_none rfl _) rfl (by decide) (fun A F => ?_)
      refine Sx.sv F (Sx.d_lenS el_77 F rfl rfl) (Sx.wanted_none rfl _) rfl (by decide) (fun A F => ?_)
      refine Sx.sv F (Sx.d_bin (v := .bool true) F rfl rfl rfl (Sx.i_lt (decide_eq_true (by omega)))) (Sx.wanted_none rfl _) rfl (by decide) (fun A F => ?_)
      refine Sx.nil ?_
      refine hK9 _ _ ?_
      refine Sx.condT F rfl ?_
      refine Sx.plain ?_
      refine Sx.sv F (Sx.d_move F (Or.inl rfl) rfl) (Sx.wanted_none rfl _) rfl (by decide) (fun A F => ?_)
      refine Sx.sv F (Sx.d_move F (Or.inl rfl) rfl) (Sx.wanted_none rfl _) rfl (by decide) (fun A F => ?_)
      refine Sx.sv F (Sx.d_move F (Or.inl rfl) rfl) (Sx.wanted_none rfl _) rfl (by decide) (fun A F => ?_)
      refine Sx.sv F (Sx.d_move F (Or.inl rfl) rfl) (Sx.wanted_none rfl _) rfl (by decide) (fun A F => ?_)
      refine Sx.sv F (Sx.d_bin (v := .int .i64 ((fr + (63 - t) : Nat) : Int)) F rfl rfl rfl (Sx.i_addS (by rw [Sx.in64 _ (by omega)]; omega))) (Sx.wanted_none rfl _) rfl (by decide) (fun A F => ?_)
      refine Sx.sv F (Sx.d_ix1 (k := (fr + (63 - t))) (g := g) (off := o) el_77 F rfl rfl had rfl (rfl) (by omega)) (Sx.wanted_none rfl _) rfl (by decide) (fun A F => ?_)
      refine Sx.sv F (Sx.d_loadF one_3 F H rfl rfl hcell) (Sx.wanted_none rfl _) rfl (by decide) (fun A F => ?_)
      refine Sx.sv F (Sx.d_conv (v := .int .u64 ((BitVec.ofNat 64 (f (fr + (63 - t))).toNat).toNat)) F rfl rfl (Sx.c_i64_u64 _ (by have := Bi.bl (f (fr + (63 - t))); omega))) (Sx.wanted_none rfl _) rfl (by decide) (fun A F => ?_)
      refine Sx.sv F (Sx.d_bin (v := .int .u64 ((BitVec.ofNat 64 (Bi.num (Bi.from_ f len fr) (t + 1))).toNat)) F rfl rfl rfl (Bi.i_add1 _ _ _ hb)) (Sx.wanted_none rfl _) rfl (by decide) (fun A F => ?_)
      refine Sx.sv F (Sx.d_move F (Or.inr rfl) rfl) (Sx.wanted_none rfl _) rfl (by decide) (fun A F => ?_)
      refine Sx.nil ?_
      refine hK7 _ _ ?_
      refine Sx.plain ?_
      refine Sx.sv F (Sx.d_move F (Or.inl rfl) rfl) (Sx.wanted_none rfl _) rfl (by decide) (fun A F => ?_)
      refine Sx.sv F (Sx.d_bin (v := .int .i64 (63 - ((t + 1 : Nat) : Int))) F rfl rfl rfl (Sx.i_subS (by rw [Sx.in64 _ (by omega)]; omega))) (Sx.wanted_none rfl _) rfl (by decide) (fun A F => ?_)
      refine Sx.sv F (Sx.d_move F (Or.inr rfl) rfl) (Sx.wanted_none rfl _) rfl (by decide) (fun A F => ?_)
      refine Sx.nil ?_
      try dsimp only [Exit.then]
      exact ⟨64 - (t + 1), by omega, t + 1, rfl, by omega, F.to ⟨rfl, rfl, rfl, rfl, trivial⟩, H⟩
    · skip
      refine Sx.seq (fun K10 hK10 => ?_)
      refine Sx.seq (fun K11 hK11 => ?_)
      refine Sx.plain ?_
      refine Sx.sv F (Sx.d_move F (Or.inl rfl) rfl) (Sx.wanted_none rfl _) rfl (by decide) (fun A F => ?_)
      refine Sx.sv F (Sx.d_bin (v := .bool true) F rfl rfl rfl (Sx.i_ge (decide_eq_true (by omega)))) (Sx.wanted_none rfl _) rfl (by decide) (fun A F => ?_)
      refine Sx.nil ?_
      refine hK11 _ _ ?_
      refine Sx.condT F rfl ?_
      refine wp_skip ?_
      refine hK10 _ _ ?_
      refine Sx.seq (fun K12 hK12 => ?_)
      refine wp_block ?_
      refine Sx.seq (fun K13 hK13 => ?_)
      refine Sx.plain ?_
      refine Sx.sv F (Sx.d_move F (Or.inl rfl) rfl) (Sx.wanted_none rfl _) rfl (by decide) (fun A F => ?_)
      refine Sx.sv F (Sx.d_bin (v := .int .u64 ((BitVec.ofNat 64 (2 * Bi.num (Bi.from_ f len fr) t)).toNat)) F rfl rfl rfl (Bi.i_mul2 _ _)) (Sx.wanted_none rfl _) rfl (by decide) (fun A F => ?_)
      refine Sx.sv F (Sx.d_move F (Or.inr rfl) rfl) (Sx.wanted_none rfl _) rfl (by decide) (fun A F => ?_)
      refine Sx.nil ?_
      refine hK13 _ _ ?_
      refine Sx.seq (fun K14 hK14 => ?_)
      refine Sx.plain ?_
      refine Sx.sv F (Sx.d_move F (Or.inl rfl) rfl) (Sx.wanted_none rfl _) rfl (by decide) (fun A F => ?_)
      refine Sx.sv F (Sx.d_move F (Or.inl rfl) rfl) (Sx.wanted_none rfl _) rfl (by decide) (fun A F => ?_)
      refine Sx.sv F (Sx.d_bin (v := .int .i64 ((fr + (63 - t) : Nat) : Int)) F rfl rfl rfl (Sx.i_addS (by rw [Sx.in64 _ (by omega)]; omega))) (Sx.wanted_none rfl _) rfl (by decide) (fun A F => ?_)
      refine Sx.sv F (Sx.d_move F (Or.inl rfl) rfl) (Sx.wanted_none rfl _) rfl (by decide) (fun A F => ?_)
      refine Sx.sv F (Sx.d_lenS el_77 F rfl rfl) (Sx.wanted_none rfl _) rfl (by decide) (fun A F => ?_)
      refine Sx.sv F (Sx.d_bin (v := .bool false) F rfl rfl rfl (Sx.i_lt (decide_eq_false (by omega)))) (Sx.wanted_none rfl _) rfl (by decide) (fun A F => ?_)
      refine Sx.nil ?_
      refine hK14 _ _ ?_
      refine Sx.condF F rfl ?_
      refine wp_skip ?_
      refine hK12 _ _ ?_
      refine Sx.plain ?_
      refine Sx.sv F (Sx.d_move F (Or.inl rfl) rfl) (Sx.wanted_none rfl _) rfl (by decide) (fun A F => ?_)
      refine Sx.sv F (Sx.d_bin (v := .int .i64 (63 - ((t + 1 : Nat) : Int))) F rfl rfl rfl (Sx.i_subS (by rw [Sx.in64 _ (by omega)]; omega))) (Sx.wanted_none rfl _) rfl (by decide) (fun A F => ?_)
      refine Sx.sv F (Sx.d_move F (Or.inr rfl) rfl) (Sx.wanted_none rfl _) rfl (by decide) (fun A F => ?_)
      refine Sx.nil ?_
      try dsimp only [Exit.then]
      have e : 2 * Bi.num (Bi.from_ f len fr) t = Bi.num (Bi.from_ f len fr) (t + 1) := by show _ = 2 * Bi.num (Bi.from_ f len fr) t + ((Bi.from_ f len fr) (63 - t)).toNat; rw [show (Bi.from_ f len fr) (63 - t) = false from by unfold Bi.from_; rw [decide_eq_false hin, Bool.false_and]]; rfl
      rw [e] at F
      exact ⟨64 - (t + 1), by omega, t + 1, rfl, by omega, F.to ⟨rfl, rfl, rfl, rfl, trivial⟩, H⟩
  · obtain rfl : t = 64 := by omega
    refine Sx.seq (fun K15 hK15 => ?_)
    refine Sx.seq (fun K16 hK16 => ?_)
    refine Sx.plain ?_
    refine Sx.sv F (Sx.d_move F (Or.inl rfl) rfl) (Sx.wanted_none rfl _) rfl (by decide) (fun A F => ?_)
    refine Sx.sv F (Sx.d_bin (v := .bool false) F rfl rfl rfl (Sx.i_ge (by decide))) (Sx.wanted_none rfl _) rfl (by decide) (fun A F => ?_)
    refine Sx.nil ?_
    refine hK16 _ _ ?_
    refine Sx.condF F rfl ?_
    refine wp_exit ?_
    try dsimp only [Exit.then, Exit.jump]
    refine Sx.exit_here ?_
    refine hK3 _ _ ?_
    refine Sx.seq (fun K17 hK17 => ?_)
    refine Sx.plain ?_
    refine Sx.sv F (Sx.d_move F (Or.inl rfl) rfl) (Sx.wanted_none rfl _) rfl (by decide) (fun A F => ?_)
    refine Sx.sv F (Sx.d_move F (Or.inr rfl) rfl) (Sx.wanted_none rfl _) rfl (by decide) (fun A F => ?_)
    refine Sx.nil ?_
    refine hK17 _ _ ?_
    refine wp_ret ?_
    try dsimp only [Exit.then, Exit.inBlock, Exit.jump]
    refine Sx.ret1 F Try.results71 (Sx.res_tmp (v := .int .u64 ((BitVec.ofNat 64 (Bi.num (Bi.from_ f len fr) 64)).toNat)) F rfl) ⟨?_, H.below⟩
    rfl
theorem rword_c (f : Nat → Bool) (v : Value) (fr : Nat) (hf : fr ≤ 1000000) {len : Nat} (w : World) (h : Bi.Rd w v f len) : Calls Try.prog 71 #[v, .int .i64 fr] w fun e w' => e = .returned (.int .u64 (Bi.word (Bi.from_ f len fr)).toNat) ∧ Below w.heap.size w w' := by
  obtain ⟨hl, ad, cap, rfl, hc⟩ := h
  exact rword_s f len hl ad cap fr hf w hc
set_option maxRecDepth 100000 in
theorem rof_c (f : Nat → Bool) (v : Value) (len : Nat) (w0 : World) (hR : Bi.Rd w0 v f len) : Calls Try.prog 59 #[v] w0 fun e w' => e = .returned (.agg #[.int .u64 ((Wd.hi (Bi.of f len)).toNat), .int .u64 ((Wd.lo (Bi.of f len)).toNat)]) ∧ Below w0.heap.size w0 w' := by
  refine Sx.enter (args := [v]) Try.func59 rfl Try.ntmps59 (Nat.le_of_ble_eq_true rfl) (fun A F => ?_)
  have H := Sx.Own.start w0
  refine Sx.seq (fun K1 hK1 => ?_)
  refine Sx.plain ?_
  refine Sx.sb F (Sx.d_alloc H rfl [.int .u64 ((Wd.hi 0#128).toNat), .int .u64 ((Wd.lo 0#128).toNat)] zero_43) (Sx.wanted_none rfl _) rfl (by decide) (fun g1 A w F H => ?_)
  refine Sx.nil ?_
  refine hK1 _ _ ?_
  refine Sx.seq (fun K2 hK2 => ?_)
  refine Sx.plain ?_
  refine Sx.sv F (Sx.d_move F (Or.inl rfl) rfl) (Sx.wanted_none rfl _) rfl (by decide) (fun A F => ?_)
  refine Sx.sw F (Sx.d_call (vs := [v, .int .i64 64]) (v := .int .u64 ((Bi.word (Bi.from_ f len 64)).toNat)) if_71 F H rfl rfl (rword_c f _ 64 (by omega) _ (hR.below H.below))) (Sx.wanted_none rfl _) rfl (by decide) (fun A w F H => ?_)
  refine Sx.sv F (Sx.d_move F (Or.inl rfl) rfl) (Sx.wanted_none rfl _) rfl (by decide) (fun A F => ?_)
  refine Sx.sw F (Sx.d_call (vs := [v, .int .i64 0]) (v := .int .u64 ((Bi.word (Bi.from_ f len 0)).toNat)) if_71 F H rfl rfl (rword_c f _ 0 (by omega) _ (hR.below H.below))) (Sx.wanted_none rfl _) rfl (by decide) (fun A w F H => ?_)
  refine Sx.sv F (Sx.d_build (qs := #[(0, .int .u64 ((Bi.word (Bi.from_ f len 64)).toNat)), (1, .int .u64 ((Bi.word (Bi.from_ f len 0)).toNat))]) (v := .agg #[.int .u64 ((Wd.hi (Wd.mk (Bi.word (Bi.from_ f len 64)) (Bi.word (Bi.from_ f len 0)))).toNat), .int .u64 ((Wd.lo (Wd.mk (Bi.word (Bi.from_ f len 64)) (Bi.word (Bi.from_ f len 0)))).toNat)]) F rfl rfl (by rw [Wd.hi_mk, Wd.lo_mk]; kernel_rfl)) (Sx.wanted_none rfl _) rfl (by decide) (fun A F => ?_)
  refine Sx.ss F (Sx.d_store (i := 0) (xs := [.int .u64 ((Wd.hi (Wd.mk (Bi.word (Bi.from_ f len 64)) (Bi.word (Bi.from_ f len 0)))).toNat), .int .u64 ((Wd.lo (Wd.mk (Bi.word (Bi.from_ f len 64)) (Bi.word (Bi.from_ f len 0)))).toNat)]) (us := [.int .u64 ((Wd.hi (Wd.mk (Bi.word (Bi.from_ f len 64)) (Bi.word (Bi.from_ f len 0)))).toNat), .int .u64 ((Wd.lo (Wd.mk (Bi.word (Bi.from_ f len 64)) (Bi.word (Bi.from_ f len 0)))).toNat)]) sz_43 F H rfl rfl rfl rfl rfl rfl rfl (Nat.le_of_ble_eq_true rfl) rfl) (Sx.wanted_none rfl _) rfl (fun A w F (H : Sx.Own w0 _ [(true, g1, [.int .u64 ((Wd.hi (Wd.mk (Bi.word (Bi.from_ f len 64)) (Bi.word (Bi.from_ f len 0)))).toNat), .int .u64 ((Wd.lo (Wd.mk (Bi.word (Bi.from_ f len 64)) (Bi.word (Bi.from_ f len 0)))).toNat)])] []) => ?_)
  refine Sx.nil ?_
  refine hK2 _ _ ?_
  refine wp_ret ?_
  try dsimp only [Exit.then, Exit.inBlock, Exit.jump]
  refine Sx.ret1 F Try.results59 (Sx.res_row (i := 0) (xs := [.int .u64 ((Wd.hi (Wd.mk (Bi.word (Bi.from_ f len 64)) (Bi.word (Bi.from_ f len 0)))).toNat), .int .u64 ((Wd.lo (Wd.mk (Bi.word (Bi.from_ f len 64)) (Bi.word (Bi.from_ f len 0)))).toNat)]) rw_43 F H rfl rfl rfl rfl) ⟨?_, H.below⟩
  rfl
end Go.Proofs.Ytpbdffmgendboab
