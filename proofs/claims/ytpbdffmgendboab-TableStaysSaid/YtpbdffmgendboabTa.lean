/- What reads a table, walked. -/
import Derived.Test.YtpbdffmgendboabTbSee
namespace Go.Proofs.Ytpbdffmgendboab
open Go Go.RowKit
set_option maxRecDepth 100000 in
theorem tcmp_c (q : Int) (x : BitVec 64) (h : Int) (hq : 0 ≤ q ∧ q < 2147483647) (w0 : World) : Calls Try.prog 74 #[.agg #[.int .i64 q, .int .u64 x.toNat], .int .i64 h] w0 fun e w' => e = .returned (.int .i64 (q - Tb.clamp h)) ∧ Below w0.heap.size w0 w' := by
  refine Sx.enter (args := [.agg #[.int .i64 q, .int .u64 x.toNat], .int .i64 h]) Try.func74 rfl Try.ntmps74 (Nat.le_of_ble_eq_true rfl) (fun A F => ?_)
  have H := Sx.Own.start w0
  refine Sx.seq (fun K1 hK1 => ?_)
  refine Sx.plain ?_
  refine Sx.sb F (Sx.d_box F H rfl rfl [.int .i64 q, .int .u64 x.toNat] rfl) (Sx.wanted_none rfl _) rfl (by decide) (fun g1 A w F H => ?_)
  refine Sx.sv F (Sx.d_move F (Or.inr rfl) rfl) (Sx.wanted_none rfl _) rfl (by decide) (fun A F => ?_)
  refine Sx.nil ?_
  refine hK1 _ _ ?_
  refine Sx.seq (fun K2 hK2 => ?_)
  refine Sx.plain ?_
  refine Sx.sv F (Sx.d_faddr (v := .pointer (some ⟨g1, 0, none⟩)) F rfl rfl (fa_107_0 _ 0 _)) (Sx.wanted_none rfl _) rfl (by decide) (fun A F => ?_)
  refine Sx.sv F (Sx.d_load1 (i := 0) (v := .int .i64 q) one_3 F H rfl rfl rfl rfl) (Sx.wanted_none rfl _) rfl (by decide) (fun A F => ?_)
  refine Sx.sv F (Sx.d_move F (Or.inl rfl) rfl) (Sx.wanted_none rfl _) rfl (by decide) (fun A F => ?_)
  refine Sx.sv F (Sx.d_max (r := (max h (-1))) F rfl rfl rfl (rfl)) (Sx.wanted_none rfl _) rfl (by decide) (fun A F => ?_)
  refine Sx.sv F (Sx.d_min (r := (Tb.clamp h)) F rfl rfl rfl (rfl)) (Sx.wanted_none rfl _) rfl (by decide) (fun A F => ?_)
  refine Sx.sv F (Sx.d_bin (v := .int .i64 (q - Tb.clamp h)) F rfl rfl rfl (Sx.i_subS (Sx.in64 _ (by have := Tb.clamp_le h; omega)))) (Sx.wanted_none rfl _) rfl (by decide) (fun A F => ?_)
  refine Sx.sv F (Sx.d_move F (Or.inr rfl) rfl) (Sx.wanted_none rfl _) rfl (by decide) (fun A F => ?_)
  refine Sx.nil ?_
  refine hK2 _ _ ?_
  refine wp_ret ?_
  try dsimp only [Exit.then, Exit.inBlock, Exit.jump]
  refine Sx.ret1 F Try.results74 (Sx.res_tmp (v := .int .i64 (q - Tb.clamp h)) F rfl) ⟨?_, H.below⟩
  rfl
set_option maxRecDepth 100000 in
theorem bsearch_s (l : List Tb.R) (h : Int) (rise : l.Pairwise (fun a b => a.1 < b.1)) (low : ∀ r ∈ l, 0 ≤ r.1 ∧ r.1 < 2147483647) (few : l.length ≤ 16) (ada : Option Addr) (capa : Nat) (w0 : World) (hca : ∀ k r, l[k]? = some r → ∃ g o, ada = some ⟨g, o, none⟩ ∧ w0.cell? ⟨g, o + k * 2, none⟩ = some (.int .i64 r.1) ∧ w0.cell? ⟨g, o + k * 2 + 1, none⟩ = some (.int .u64 (r.2.toNat : Nat))) : Calls Try.prog 73 #[.slice ada l.length capa, .int .i64 h, .func (.func 74) #[] #[]] w0 fun e w' => e = .returned (.tuple #[.int .i64 (Tb.pos h l), .bool (Tb.hit h l)]) ∧ Below w0.heap.size w0 w' := by
  refine Sx.enter (args := [.slice ada l.length capa, .int .i64 h, .func (.func 74) #[] #[]]) Try.func73 rfl Try.ntmps73 (Nat.le_of_ble_eq_true rfl) (fun A F => ?_)
  have H := Sx.Own.start w0
  refine Sx.seq (fun K1 hK1 => ?_)
  refine Sx.plain ?_
  refine Sx.sv F (Sx.d_move F (Or.inr rfl) rfl) (Sx.wanted_none rfl _) rfl (by decide) (fun A F => ?_)
  refine Sx.sv F (Sx.d_move F (Or.inr rfl) rfl) (Sx.wanted_none rfl _) rfl (by decide) (fun A F => ?_)
  refine Sx.nil ?_
  refine hK1 _ _ ?_
  refine Sx.seq (fun K2 hK2 => ?_)
  refine Sx.plain ?_
  refine Sx.sv F (Sx.d_move F (Or.inl rfl) rfl) (Sx.wanted_none rfl _) rfl (by decide) (fun A F => ?_)
  refine Sx.sv F (Sx.d_lenS el_99 F rfl rfl) (Sx.wanted_none rfl _) rfl (by decide) (fun A F => ?_)
  refine Sx.sv F (Sx.d_move F (Or.inr rfl) rfl) (Sx.wanted_none rfl _) rfl (by decide) (fun A F => ?_)
  refine Sx.nil ?_
  refine hK2 _ _ ?_
  refine Sx.seq (fun K3 hK3 => ?_)
  refine Sx.plain ?_
  refine Sx.sv F (Sx.d_move F (Or.inl rfl) rfl) (Sx.wanted_none rfl _) rfl (by decide) (fun A F => ?_)
  refine Sx.sv F (Sx.d_move F (Or.inr rfl) rfl) (Sx.wanted_none rfl _) rfl (by decide) (fun A F => ?_)
  refine Sx.sv F (Sx.d_move F (Or.inr rfl) rfl) (Sx.wanted_none rfl _) rfl (by decide) (fun A F => ?_)
  refine Sx.nil ?_
  refine hK3 _ _ ?_
  refine Sx.seq (fun K4 hK4 => ?_)
  refine wp_block ?_
  refine Sx.loop (fun q A w => ∃ (i j : Nat), q = j - i ∧ i ≤ j ∧ j ≤ l.length ∧ (∀ k r, l[k]? = some r → k < i → r.1 < h) ∧ (∀ k r, l[k]? = some r → j ≤ k → ¬ r.1 < h) ∧ Sx.Fr 49 A [(0, .slice ada l.length capa), (1, .int .i64 h), (2, .func (.func 74) #[] #[]), (8, .int .i64 l.length), (9, .int .i64 i), (10, .int .i64 j)] ∧ Sx.Own w0 w [] []) l.length ⟨0, l.length, rfl, Nat.zero_le _, Nat.le_refl _, fun k r _ hk => absurd hk (Nat.not_lt_zero _), fun k r hk hl => absurd (List.getElem?_eq_some_iff.1 hk).1 (by omega), F.to ⟨rfl, rfl, rfl, rfl, rfl, rfl, trivial⟩, H⟩ ?_
  rintro q A w ⟨i, j, rfl, hij, hjl, hlo, hhi, F, H⟩
  by_cases hlt : i < j
  · skip
    refine Sx.seq (fun K5 hK5 => ?_)
    refine Sx.seq (fun K6 hK6 => ?_)
    refine Sx.plain ?_
    refine Sx.sv F (Sx.d_move F (Or.inl rfl) rfl) (Sx.wanted_none rfl _) rfl (by decide) (fun A F => ?_)
    refine Sx.sv F (Sx.d_move F (Or.inl rfl) rfl) (Sx.wanted_none rfl _) rfl (by decide) (fun A F => ?_)
    refine Sx.sv F (Sx.d_bin (v := .bool true) F rfl rfl rfl (Sx.i_lt (decide_eq_true (by omega)))) (Sx.wanted_none rfl _) rfl (by decide) (fun A F => ?_)
    refine Sx.nil ?_
    refine hK6 _ _ ?_
    refine Sx.condT F rfl ?_
    refine wp_skip ?_
    refine hK5 _ _ ?_
    refine wp_block ?_
    refine Sx.seq (fun K7 hK7 => ?_)
    refine Sx.plain ?_
    refine Sx.sv F (Sx.d_move F (Or.inl rfl) rfl) (Sx.wanted_none rfl _) rfl (by decide) (fun A F => ?_)
    refine Sx.sv F (Sx.d_move F (Or.inl rfl) rfl) (Sx.wanted_none rfl _) rfl (by decide) (fun A F => ?_)
    refine Sx.sv F (Sx.d_bin (v := .int .i64 (i + j : Nat)) F rfl rfl rfl (Sx.i_addN rfl (Sx.in_i64 _ (by omega)))) (Sx.wanted_none rfl _) rfl (by decide) (fun A F => ?_)
    refine Sx.sv F (Sx.d_conv (v := .int .u64 (i + j : Nat)) F rfl rfl (Sx.c_int_uint _ (by omega))) (Sx.wanted_none rfl _) rfl (by decide) (fun A F => ?_)
    refine Sx.sv F (Sx.d_bin (v := .int .u64 ((i + j) / 2 : Nat)) F rfl rfl rfl (Sx.i_shr1)) (Sx.wanted_none rfl _) rfl (by decide) (fun A F => ?_)
    refine Sx.sv F (Sx.d_conv (v := .int .i64 ((i + j) / 2 : Nat)) F rfl rfl (Sx.c_uint_int _ (by omega))) (Sx.wanted_none rfl _) rfl (by decide) (fun A F => ?_)
    refine Sx.sv F (Sx.d_move F (Or.inr rfl) rfl) (Sx.wanted_none rfl _) rfl (by decide) (fun A F => ?_)
    refine Sx.nil ?_
    obtain ⟨m, hm⟩ : ∃ q, (i + j) / 2 = q := ⟨_, rfl⟩
    rw [hm] at F
    obtain ⟨r, hr⟩ : ∃ r, l[m]? = some r := ⟨_, List.getElem?_eq_getElem (by omega)⟩
    obtain ⟨ga, oa, hada, hcell0, hcell1⟩ := hca m r hr
    have hlow := low r (List.mem_of_getElem? hr)
    refine hK7 _ _ ?_
    by_cases hc : r.1 < h
    · skip
      refine Sx.seq (fun K8 hK8 => ?_)
      refine Sx.plain ?_
      refine Sx.sv F (Sx.d_move F (Or.inl rfl) rfl) (Sx.wanted_none rfl _) rfl (by decide) (fun A F => ?_)
      refine Sx.sv F (Sx.d_move F (Or.inl rfl) rfl) (Sx.wanted_none rfl _) rfl (by decide) (fun A F => ?_)
      refine Sx.sv F (Sx.d_move F (Or.inl rfl) rfl) (Sx.wanted_none rfl _) rfl (by decide) (fun A F => ?_)
      refine Sx.sv F (Sx.d_ixZ (k := m) (g := ga) (off := oa) (z := 2) el_99 F rfl rfl hada rfl (rfl) (by omega)) (Sx.wanted_none rfl _) rfl (by decide) (fun A F => ?_)
      refine Sx.sv F (Sx.d_loadF2 rw_107 F H rfl rfl hcell0 hcell1) (Sx.wanted_none rfl _) rfl (by decide) (fun A F => ?_)
      refine Sx.sv F (Sx.d_move F (Or.inl rfl) rfl) (Sx.wanted_none rfl _) rfl (by decide) (fun A F => ?_)
      refine Sx.sw F (Sx.d_callV (vs := [.agg #[.int .i64 r.1, .int .u64 r.2.toNat], .int .i64 h]) (v := .int .i64 (r.1 - Tb.clamp h)) if_74 F H rfl rfl rfl (tcmp_c r.1 r.2 h (by omega) _)) (Sx.wanted_none rfl _) rfl (by decide) (fun A w F H => ?_)
      refine Sx.sv F (Sx.d_bin (v := .bool true) F rfl rfl rfl (Sx.i_lt (decide_eq_true ((Tb.clamp_lt hlow.1 hlow.2).2 hc)))) (Sx.wanted_none rfl _) rfl (by decide) (fun A F => ?_)
      refine Sx.nil ?_
      refine hK8 _ _ ?_
      refine Sx.condT F rfl ?_
      refine Sx.plain ?_
      refine Sx.sv F (Sx.d_move F (Or.inl rfl) rfl) (Sx.wanted_none rfl _) rfl (by decide) (fun A F => ?_)
      refine Sx.sv F (Sx.d_bin (v := .int .i64 (m + 1 : Nat)) F rfl rfl rfl (Sx.i_addN rfl (Sx.in_i64 _ (by omega)))) (Sx.wanted_none rfl _) rfl (by decide) (fun A F => ?_)
      refine Sx.sv F (Sx.d_move F (Or.inr rfl) rfl) (Sx.wanted_none rfl _) rfl (by decide) (fun A F => ?_)
      refine Sx.nil ?_
      try dsimp only [Exit.then]
      exact ⟨j - (m + 1), by omega, m + 1, j, rfl, by omega, hjl, Tb.below rise h hr hc, hhi, F.to ⟨rfl, rfl, rfl, rfl, rfl, rfl, trivial⟩, H⟩
    · skip
      refine Sx.seq (fun K9 hK9 => ?_)
      refine Sx.plain ?_
      refine Sx.sv F (Sx.d_move F (Or.inl rfl) rfl) (Sx.wanted_none rfl _) rfl (by decide) (fun A F => ?_)
      refine Sx.sv F (Sx.d_move F (Or.inl rfl) rfl) (Sx.wanted_none rfl _) rfl (by decide) (fun A F => ?_)
      refine Sx.sv F (Sx.d_move F (Or.inl rfl) rfl) (Sx.wanted_none rfl _) rfl (by decide) (fun A F => ?_)
      refine Sx.sv F (Sx.d_ixZ (k := m) (g := ga) (off := oa) (z := 2) el_99 F rfl rfl hada rfl (rfl) (by omega)) (Sx.wanted_none rfl _) rfl (by decide) (fun A F => ?_)
      refine Sx.sv F (Sx.d_loadF2 rw_107 F H rfl rfl hcell0 hcell1) (Sx.wanted_none rfl _) rfl (by decide) (fun A F => ?_)
      refine Sx.sv F (Sx.d_move F (Or.inl rfl) rfl) (Sx.wanted_none rfl _) rfl (by decide) (fun A F => ?_)
      refine Sx.sw F (Sx.d_callV (vs := [.agg #[.int .i64 r.1, .int .u64 r.2.toNat], .int .i64 h]) (v := .int .i64 (r.1 - Tb.clamp h)) if_74 F H rfl rfl rfl (tcmp_c r.1 r.2 h (by omega) _)) (Sx.wanted_none rfl _) rfl (by decide) (fun A w F H => ?_)
      refine Sx.sv F (Sx.d_bin (v := .bool false) F rfl rfl rfl (Sx.i_lt (decide_eq_false (fun e => hc ((Tb.clamp_lt hlow.1 hlow.2).1 e))))) (Sx.wanted_none rfl _) rfl (by decide) (fun A F => ?_)
      refine Sx.nil ?_
      refine hK9 _ _ ?_
      refine Sx.condF F rfl ?_
      refine Sx.plain ?_
      refine Sx.sv F (Sx.d_move F (Or.inl rfl) rfl) (Sx.wanted_none rfl _) rfl (by decide) (fun A F => ?_)
      refine Sx.sv F (Sx.d_move F (Or.inr rfl) rfl) (Sx.wanted_none rfl _) rfl (by decide) (fun A F => ?_)
      refine Sx.nil ?_
      try dsimp only [Exit.then]
      exact ⟨m - i, by omega, i, m, rfl, by omega, by omega, hlo, Tb.above rise h hr hc, F.to ⟨rfl, rfl, rfl, rfl, rfl, rfl, trivial⟩, H⟩
  · obtain rfl : i = j := by omega
    have hpos := Tb.pos_of h l i hjl hlo hhi
    refine Sx.seq (fun K10 hK10 => ?_)
    refine Sx.seq (fun K11 hK11 => ?_)
    refine Sx.plain ?_
    refine Sx.sv F (Sx.d_move F (Or.inl rfl) rfl) (Sx.wanted_none rfl _) rfl (by decide) (fun A F => ?_)
    refine Sx.sv F (Sx.d_move F (Or.inl rfl) rfl) (Sx.wanted_none rfl _) rfl (by decide) (fun A F => ?_)
    refine Sx.sv F (Sx.d_bin (v := .bool false) F rfl rfl rfl (Sx.i_lt (by simp))) (Sx.wanted_none rfl _) rfl (by decide) (fun A F => ?_)
    refine Sx.nil ?_
    refine hK11 _ _ ?_
    refine Sx.condF F rfl ?_
    refine wp_exit ?_
    try dsimp only [Exit.then, Exit.jump]
    refine Sx.exit_here ?_
    refine hK4 _ _ ?_
    by_cases hil : i < l.length
    · obtain ⟨r, hr⟩ : ∃ r, l[i]? = some r := ⟨_, List.getElem?_eq_getElem hil⟩
      obtain ⟨ga, oa, hada, hcell0, hcell1⟩ := hca i r hr
      have hlow := low r (List.mem_of_getElem? hr)
      have hhit := Tb.hit_at hpos hr
      by_cases he : r.1 = h
      · skip
        refine Sx.seq (fun K12 hK12 => ?_)
        refine Sx.plain ?_
        refine Sx.sv F (Sx.d_move F (Or.inl rfl) rfl) (Sx.wanted_none rfl _) rfl (by decide) (fun A F => ?_)
        refine Sx.sv F (Sx.d_move F (Or.inl rfl) rfl) (Sx.wanted_none rfl _) rfl (by decide) (fun A F => ?_)
        refine Sx.sv F (Sx.d_move F (Or.inl rfl) rfl) (Sx.wanted_none rfl _) rfl (by decide) (fun A F => ?_)
        refine Sx.sv F (Sx.d_bin (v := .bool true) F rfl rfl rfl (Sx.i_lt (decide_eq_true (by omega)))) (Sx.wanted_none rfl _) rfl (by decide) (fun A F => ?_)
        refine Sx.sv F (Sx.d_move F (Or.inl rfl) rfl) (Sx.wanted_none rfl _) rfl (by decide) (fun A F => ?_)
        refine Sx.sv F (Sx.d_move F (Or.inl rfl) rfl) (Sx.wanted_on rfl (Sx.guard_known (d := 39) (b := true) F rfl rfl) rfl) rfl (by decide) (fun A F => ?_)
        refine Sx.sv F (Sx.d_move F (Or.inl rfl) rfl) (Sx.wanted_on rfl (Sx.guard_known (d := 39) (b := true) F rfl rfl) rfl) rfl (by decide) (fun A F => ?_)
        refine Sx.sv F (Sx.d_move F (Or.inl rfl) rfl) (Sx.wanted_on rfl (Sx.guard_known (d := 39) (b := true) F rfl rfl) rfl) rfl (by decide) (fun A F => ?_)
        refine Sx.sv F (Sx.d_ixZ (k := i) (g := ga) (off := oa) (z := 2) el_99 F rfl rfl hada rfl (rfl) (by omega)) (Sx.wanted_on rfl (Sx.guard_known (d := 39) (b := true) F rfl rfl) rfl) rfl (by decide) (fun A F => ?_)
        refine Sx.sv F (Sx.d_loadF2 rw_107 F H rfl rfl hcell0 hcell1) (Sx.wanted_on rfl (Sx.guard_known (d := 39) (b := true) F rfl rfl) rfl) rfl (by decide) (fun A F => ?_)
        refine Sx.sv F (Sx.d_move F (Or.inl rfl) rfl) (Sx.wanted_on rfl (Sx.guard_known (d := 39) (b := true) F rfl rfl) rfl) rfl (by decide) (fun A F => ?_)
        refine Sx.sw F (Sx.d_callV (vs := [.agg #[.int .i64 r.1, .int .u64 r.2.toNat], .int .i64 h]) (v := .int .i64 (r.1 - Tb.clamp h)) if_74 F H rfl rfl rfl (tcmp_c r.1 r.2 h (by omega) _)) (Sx.wanted_on rfl (Sx.guard_known (d := 39) (b := true) F rfl rfl) rfl) rfl (by decide) (fun A w F H => ?_)
        refine Sx.sv F (Sx.d_bin (v := .bool true) F rfl rfl rfl (Sx.i_eq (beq_iff_eq.2 ((Tb.clamp_eq hlow.1 hlow.2).2 he)))) (Sx.wanted_on rfl (Sx.guard_known (d := 39) (b := true) F rfl rfl) rfl) rfl (by decide) (fun A F => ?_)
        refine Sx.sv F (Sx.d_pickT (v := .bool true) F rfl rfl rfl) (Sx.wanted_none rfl _) rfl (by decide) (fun A F => ?_)
        refine Sx.sv F (Sx.d_move F (Or.inr rfl) rfl) (Sx.wanted_none rfl _) rfl (by decide) (fun A F => ?_)
        refine Sx.sv F (Sx.d_move F (Or.inr rfl) rfl) (Sx.wanted_none rfl _) rfl (by decide) (fun A F => ?_)
        refine Sx.nil ?_
        refine hK12 _ _ ?_
        refine wp_ret ?_
        try dsimp only [Exit.then, Exit.inBlock, Exit.jump]
        refine Sx.ret2 F Try.results73 (Sx.res_tmp (v := .int .i64 i) F rfl) (Sx.res_tmp (v := .bool true) F rfl) ⟨?_, H.below⟩
        rw [hpos, hhit, beq_iff_eq.2 he]
      · skip
        refine Sx.seq (fun K13 hK13 => ?_)
        refine Sx.plain ?_
        refine Sx.sv F (Sx.d_move F (Or.inl rfl) rfl) (Sx.wanted_none rfl _) rfl (by decide) (fun A F => ?_)
        refine Sx.sv F (Sx.d_move F (Or.inl rfl) rfl) (Sx.wanted_none rfl _) rfl (by decide) (fun A F => ?_)
        refine Sx.sv F (Sx.d_move F (Or.inl rfl) rfl) (Sx.wanted_none rfl _) rfl (by decide) (fun A F => ?_)
        refine Sx.sv F (Sx.d_bin (v := .bool true) F rfl rfl rfl (Sx.i_lt (decide_eq_true (by omega)))) (Sx.wanted_none rfl _) rfl (by decide) (fun A F => ?_)
        refine Sx.sv F (Sx.d_move F (Or.inl rfl) rfl) (Sx.wanted_none rfl _) rfl (by decide) (fun A F => ?_)
        refine Sx.sv F (Sx.d_move F (Or.inl rfl) rfl) (Sx.wanted_on rfl (Sx.guard_known (d := 39) (b := true) F rfl rfl) rfl) rfl (by decide) (fun A F => ?_)
        refine Sx.sv F (Sx.d_move F (Or.inl rfl) rfl) (Sx.wanted_on rfl (Sx.guard_known (d := 39) (b := true) F rfl rfl) rfl) rfl (by decide) (fun A F => ?_)
        refine Sx.sv F (Sx.d_move F (Or.inl rfl) rfl) (Sx.wanted_on rfl (Sx.guard_known (d := 39) (b := true) F rfl rfl) rfl) rfl (by decide) (fun A F => ?_)
        refine Sx.sv F (Sx.d_ixZ (k := i) (g := ga) (off := oa) (z := 2) el_99 F rfl rfl hada rfl (rfl) (by omega)) (Sx.wanted_on rfl (Sx.guard_known (d := 39) (b := true) F rfl rfl) rfl) rfl (by decide) (fun A F => ?_)
        refine Sx.sv F (Sx.d_loadF2 rw_107 F H rfl rfl hcell0 hcell1) (Sx.wanted_on rfl (Sx.guard_known (d := 39) (b := true) F rfl rfl) rfl) rfl (by decide) (fun A F => ?_)
        refine Sx.sv F (Sx.d_move F (Or.inl rfl) rfl) (Sx.wanted_on rfl (Sx.guard_known (d := 39) (b := true) F rfl rfl) rfl) rfl (by decide) (fun A F => ?_)
        refine Sx.sw F (Sx.d_callV (vs := [.agg #[.int .i64 r.1, .int .u64 r.2.toNat], .int .i64 h]) (v := .int .i64 (r.1 - Tb.clamp h)) if_74 F H rfl rfl rfl (tcmp_c r.1 r.2 h (by omega) _)) (Sx.wanted_on rfl (Sx.guard_known (d := 39) (b := true) F rfl rfl) rfl) rfl (by decide) (fun A w F H => ?_)
        refine Sx.sv F (Sx.d_bin (v := .bool false) F rfl rfl rfl (Sx.i_eq (beq_false_of_ne (fun e => he ((Tb.clamp_eq hlow.1 hlow.2).1 e))))) (Sx.wanted_on rfl (Sx.guard_known (d := 39) (b := true) F rfl rfl) rfl) rfl (by decide) (fun A F => ?_)
        refine Sx.sv F (Sx.d_pickT (v := .bool false) F rfl rfl rfl) (Sx.wanted_none rfl _) rfl (by decide) (fun A F => ?_)
        refine Sx.sv F (Sx.d_move F (Or.inr rfl) rfl) (Sx.wanted_none rfl _) rfl (by decide) (fun A F => ?_)
        refine Sx.sv F (Sx.d_move F (Or.inr rfl) rfl) (Sx.wanted_none rfl _) rfl (by decide) (fun A F => ?_)
        refine Sx.nil ?_
        refine hK13 _ _ ?_
        refine wp_ret ?_
        try dsimp only [Exit.then, Exit.inBlock, Exit.jump]
        refine Sx.ret2 F Try.results73 (Sx.res_tmp (v := .int .i64 i) F rfl) (Sx.res_tmp (v := .bool false) F rfl) ⟨?_, H.below⟩
        rw [hpos, hhit, beq_false_of_ne he]
    · obtain rfl : i = l.length := by omega
      have hhit := Tb.hit_end hpos
      refine Sx.seq (fun K14 hK14 => ?_)
      refine Sx.plain ?_
      refine Sx.sv F (Sx.d_move F (Or.inl rfl) rfl) (Sx.wanted_none rfl _) rfl (by decide) (fun A F => ?_)
      refine Sx.sv F (Sx.d_move F (Or.inl rfl) rfl) (Sx.wanted_none rfl _) rfl (by decide) (fun A F => ?_)
      refine Sx.sv F (Sx.d_move F (Or.inl rfl) rfl) (Sx.wanted_none rfl _) rfl (by decide) (fun A F => ?_)
      refine Sx.sv F (Sx.d_bin (v := .bool false) F rfl rfl rfl (Sx.i_lt (by simp))) (Sx.wanted_none rfl _) rfl (by decide) (fun A F => ?_)
      refine Sx.sv F (Sx.d_move F (Or.inl rfl) rfl) (Sx.wanted_none rfl _) rfl (by decide) (fun A F => ?_)
      refine Sx.su F (Sx.wanted_off rfl (Sx.guard_known (d := 39) (b := false) F rfl rfl) rfl) rfl (by decide) (fun A F => ?_)
      refine Sx.su F (Sx.wanted_off rfl (Sx.guard_known (d := 39) (b := false) F rfl rfl) rfl) rfl (by decide) (fun A F => ?_)
      refine Sx.su F (Sx.wanted_off rfl (Sx.guard_known (d := 39) (b := false) F rfl rfl) rfl) rfl (by decide) (fun A F => ?_)
      refine Sx.su F (Sx.wanted_off rfl (Sx.guard_known (d := 39) (b := false) F rfl rfl) rfl) rfl (by decide) (fun A F => ?_)
      refine Sx.su F (Sx.wanted_off rfl (Sx.guard_known (d := 39) (b := false) F rfl rfl) rfl) rfl (by decide) (fun A F => ?_)
      refine Sx.su F (Sx.wanted_off rfl (Sx.guard_known (d := 39) (b := false) F rfl rfl) rfl) rfl (by decide) (fun A F => ?_)
      refine Sx.su F (Sx.wanted_off rfl (Sx.guard_known (d := 39) (b := false) F rfl rfl) rfl) rfl (by decide) (fun A F => ?_)
      refine Sx.su F (Sx.wanted_off rfl (Sx.guard_known (d := 39) (b := false) F rfl rfl) rfl) rfl (by decide) (fun A F => ?_)
      refine Sx.sv F (Sx.d_pickF (v := .bool false) F rfl rfl rfl) (Sx.wanted_none rfl _) rfl (by decide) (fun A F => ?_)
      refine Sx.sv F (Sx.d_move F (Or.inr rfl) rfl) (Sx.wanted_none rfl _) rfl (by decide) (fun A F => ?_)
      refine Sx.sv F (Sx.d_move F (Or.inr rfl) rfl) (Sx.wanted_none rfl _) rfl (by decide) (fun A F => ?_)
      refine Sx.nil ?_
      refine hK14 _ _ ?_
      refine wp_ret ?_
      try dsimp only [Exit.then, Exit.inBlock, Exit.jump]
      refine Sx.ret2 F Try.results73 (Sx.res_tmp (v := .int .i64 l.length) F rfl) (Sx.res_tmp (v := .bool false) F rfl) ⟨?_, H.below⟩
      rw [hpos, hhit]
theorem bsearch_c (l : List Tb.R) (h : Int) (rise : l.Pairwise (fun a b => a.1 < b.1)) (low : ∀ r ∈ l, 0 ≤ r.1 ∧ r.1 < 2147483647) (few : l.length ≤ 16) (v : Value) (w : World) (hv : Tb.Rd w v l) : Calls Try.prog 73 #[v, .int .i64 h, .func (.func 74) #[] #[]] w fun e w' => e = .returned (.tuple #[.int .i64 (Tb.pos h l), .bool (Tb.hit h l)]) ∧ Below w.heap.size w w' := by
  obtain ⟨ada, capa, rfl, hca⟩ := hv
  exact bsearch_s l h rise low few ada capa w hca
set_option maxRecDepth 100000 in
theorem tfind_s (sT : Tb.S) (hok : sT.ok) (h : Int) (tb : Nat) (w0 : World) (ada : Option Addr) (capa : Nat) (hc0 : w0.cell? ⟨tb, 0, none⟩ = some (.slice ada sT.l.length capa)) (hc1 : w0.cell? ⟨tb, 1, none⟩ = some (.int .i64 sT.n)) (hca : ∀ k r, sT.l[k]? = some r → ∃ g o, ada = some ⟨g, o, none⟩ ∧ w0.cell? ⟨g, o + k * 2, none⟩ = some (.int .i64 r.1) ∧ w0.cell? ⟨g, o + k * 2 + 1, none⟩ = some (.int .u64 (r.2.toNat : Nat))) : Calls Try.prog 67 #[.pointer (some ⟨tb, 0, none⟩), .int .i64 h] w0 fun e w' => e = .returned (.tuple #[.int .i64 (Tb.pos h sT.l), .bool (Tb.hit h sT.l)]) ∧ Below w0.heap.size w0 w' := by
  refine Sx.enter (args := [.pointer (some ⟨tb, 0, none⟩), .int .i64 h]) Try.func67 rfl Try.ntmps67 (Nat.le_of_ble_eq_true rfl) (fun A F => ?_)
  have H := Sx.Own.start w0
  refine Sx.seq (fun K1 hK1 => ?_)
  refine Sx.plain ?_
  refine Sx.sv F (Sx.d_move F (Or.inr rfl) rfl) (Sx.wanted_none rfl _) rfl (by decide) (fun A F => ?_)
  refine Sx.sv F (Sx.d_move F (Or.inr rfl) rfl) (Sx.wanted_none rfl _) rfl (by decide) (fun A F => ?_)
  refine Sx.nil ?_
  refine hK1 _ _ ?_
  refine Sx.seq (fun K2 hK2 => ?_)
  refine Sx.plain ?_
  refine Sx.sv F (Sx.d_move F (Or.inl rfl) rfl) (Sx.wanted_none rfl _) rfl (by decide) (fun A F => ?_)
  refine Sx.sv F (Sx.d_nil F rfl rfl) (Sx.wanted_none rfl _) rfl (by decide) (fun A F => ?_)
  refine Sx.sv F (Sx.d_faddr (v := .pointer (some ⟨tb, 0, none⟩)) F rfl rfl (fa_101_0 _ (0) _)) (Sx.wanted_none rfl _) rfl (by decide) (fun A F => ?_)
  refine Sx.sv F (Sx.d_loadF one_99 F H rfl rfl hc0) (Sx.wanted_none rfl _) rfl (by decide) (fun A F => ?_)
  refine Sx.sv F (Sx.d_move F (Or.inl rfl) rfl) (Sx.wanted_none rfl _) rfl (by decide) (fun A F => ?_)
  refine Sx.sw F (Sx.d_call (vs := [.slice ada sT.l.length capa, .int .i64 h, .func (.func 74) #[] #[]]) (v := .tuple #[.int .i64 (Tb.pos h sT.l), .bool (Tb.hit h sT.l)]) if_73 F H rfl rfl (bsearch_c sT.l h hok.rise (fun r hr => by have h1 := hok.low r hr; have h2 := hok.n1; omega) hok.few _ _ (Tb.Rd.lift ⟨ada, capa, rfl, hca⟩ H.below))) (Sx.wanted_none rfl _) rfl (by decide) (fun A w F H => ?_)
  refine Sx.sv F (Sx.d_extract (v := .int .i64 (Tb.pos h sT.l)) F rfl rfl rfl) (Sx.wanted_none rfl _) rfl (by decide) (fun A F => ?_)
  refine Sx.sv F (Sx.d_extract (v := .bool (Tb.hit h sT.l)) F rfl rfl rfl) (Sx.wanted_none rfl _) rfl (by decide) (fun A F => ?_)
  refine Sx.sv F (Sx.d_move F (Or.inr rfl) rfl) (Sx.wanted_none rfl _) rfl (by decide) (fun A F => ?_)
  refine Sx.sv F (Sx.d_move F (Or.inr rfl) rfl) (Sx.wanted_none rfl _) rfl (by decide) (fun A F => ?_)
  refine Sx.nil ?_
  refine hK2 _ _ ?_
  refine wp_ret ?_
  try dsimp only [Exit.then, Exit.inBlock, Exit.jump]
  refine Sx.ret2 F Try.results67 (Sx.res_tmp (v := .int .i64 (Tb.pos h sT.l)) F rfl) (Sx.res_tmp (v := .bool (Tb.hit h sT.l)) F rfl) ⟨?_, H.below⟩
  rfl
theorem tfind_c (sT : Tb.S) (hok : sT.ok) (h : Int) (tb : Nat) (w0 : World) (hs : Tb.See w0 tb sT) : Calls Try.prog 67 #[.pointer (some ⟨tb, 0, none⟩), .int .i64 h] w0 fun e w' => e = .returned (.tuple #[.int .i64 (Tb.pos h sT.l), .bool (Tb.hit h sT.l)]) ∧ Below w0.heap.size w0 w' := by
  obtain ⟨v, hc0, hc1, ada, capa, rfl, hca⟩ := hs
  exact tfind_s sT hok h tb w0 ada capa hc0 hc1 hca
set_option maxRecDepth 100000 in
theorem tget_s (sT : Tb.S) (hok : sT.ok) (h : Int) (tb : Nat) (w0 : World) (ada : Option Addr) (capa : Nat) (hc0 : w0.cell? ⟨tb, 0, none⟩ = some (.slice ada sT.l.length capa)) (hc1 : w0.cell? ⟨tb, 1, none⟩ = some (.int .i64 sT.n)) (hca : ∀ k r, sT.l[k]? = some r → ∃ g o, ada = some ⟨g, o, none⟩ ∧ w0.cell? ⟨g, o + k * 2, none⟩ = some (.int .i64 r.1) ∧ w0.cell? ⟨g, o + k * 2 + 1, none⟩ = some (.int .u64 (r.2.toNat : Nat))) : Calls Try.prog 43 #[.pointer (some ⟨tb, 0, none⟩), .int .i64 h] w0 fun e w' => e = .returned (.tuple #[.int .u64 ((Tb.S.val sT h).toNat), .bool (Tb.S.has sT h)]) ∧ Below w0.heap.size w0 w' := by
  refine Sx.enter (args := [.pointer (some ⟨tb, 0, none⟩), .int .i64 h]) Try.func43 rfl Try.ntmps43 (Nat.le_of_ble_eq_true rfl) (fun A F => ?_)
  have H := Sx.Own.start w0
  refine Sx.seq (fun K1 hK1 => ?_)
  refine Sx.plain ?_
  refine Sx.sv F (Sx.d_move F (Or.inr rfl) rfl) (Sx.wanted_none rfl _) rfl (by decide) (fun A F => ?_)
  refine Sx.sv F (Sx.d_move F (Or.inr rfl) rfl) (Sx.wanted_none rfl _) rfl (by decide) (fun A F => ?_)
  refine Sx.nil ?_
  refine hK1 _ _ ?_
  cases hb : Tb.hit h sT.l
  · have hn := (Tb.hit_pos hok.rise h).symm.trans hb
    refine Sx.seq (fun K2 hK2 => ?_)
    refine Sx.plain ?_
    refine Sx.sv F (Sx.d_move F (Or.inl rfl) rfl) (Sx.wanted_none rfl _) rfl (by decide) (fun A F => ?_)
    refine Sx.sv F (Sx.d_move F (Or.inl rfl) rfl) (Sx.wanted_none rfl _) rfl (by decide) (fun A F => ?_)
    refine Sx.sw F (Sx.d_call (vs := [.pointer (some ⟨tb, 0, none⟩), .int .i64 h]) (v := .tuple #[.int .i64 (Tb.pos h sT.l), .bool false]) if_67 F H rfl rfl (Calls.val (tfind_c sT hok h _ _ (Tb.See.lift ⟨_, hc0, hc1, ada, capa, rfl, hca⟩ H.below)) rfl (by rw [hb]))) (Sx.wanted_none rfl _) rfl (by decide) (fun A w F H => ?_)
    refine Sx.sv F (Sx.d_move F (Or.inl rfl) rfl) (Sx.wanted_none rfl _) rfl (by decide) (fun A F => ?_)
    refine Sx.sv F (Sx.d_extract (v := .int .i64 (Tb.pos h sT.l)) F rfl rfl rfl) (Sx.wanted_none rfl _) rfl (by decide) (fun A F => ?_)
    refine Sx.sv F (Sx.d_extract (v := .bool false) F rfl rfl rfl) (Sx.wanted_none rfl _) rfl (by decide) (fun A F => ?_)
    refine Sx.sv F (Sx.d_move F (Or.inr rfl) rfl) (Sx.wanted_none rfl _) rfl (by decide) (fun A F => ?_)
    refine Sx.sv F (Sx.d_move F (Or.inr rfl) rfl) (Sx.wanted_none rfl _) rfl (by decide) (fun A F => ?_)
    refine Sx.nil ?_
    refine hK2 _ _ ?_
    refine Sx.seq (fun K3 hK3 => ?_)
    refine Sx.seq (fun K4 hK4 => ?_)
    refine Sx.plain ?_
    refine Sx.sv F (Sx.d_move F (Or.inl rfl) rfl) (Sx.wanted_none rfl _) rfl (by decide) (fun A F => ?_)
    refine Sx.sv F (Sx.d_un (v := .bool true) F rfl rfl rfl) (Sx.wanted_none rfl _) rfl (by decide) (fun A F => ?_)
    refine Sx.nil ?_
    refine hK4 _ _ ?_
    refine Sx.condT F rfl ?_
    refine Sx.seq (fun K5 hK5 => ?_)
    refine Sx.plain ?_
    refine Sx.sv F (Sx.d_move F (Or.inr rfl) rfl) (Sx.wanted_none rfl _) rfl (by decide) (fun A F => ?_)
    refine Sx.nil ?_
    refine hK5 _ _ ?_
    refine Sx.seq (fun K6 hK6 => ?_)
    refine Sx.plain ?_
    refine Sx.sv F (Sx.d_move F (Or.inl rfl) rfl) (Sx.wanted_none rfl _) rfl (by decide) (fun A F => ?_)
    refine Sx.sv F (Sx.d_move F (Or.inr rfl) rfl) (Sx.wanted_none rfl _) rfl (by decide) (fun A F => ?_)
    refine Sx.sv F (Sx.d_move F (Or.inr rfl) rfl) (Sx.wanted_none rfl _) rfl (by decide) (fun A F => ?_)
    refine Sx.nil ?_
    refine hK6 _ _ ?_
    refine wp_ret ?_
    try dsimp only [Exit.then, Exit.inBlock, Exit.jump]
    refine Sx.ret2 F Try.results43 (Sx.res_tmp (v := .int .u64 0) F rfl) (Sx.res_tmp (v := .bool false) F rfl) ⟨?_, H.below⟩
    unfold Tb.S.val Tb.S.has; rw [Tb.find_none h hn, hn]; rfl
  · obtain ⟨r, hr, he⟩ := Tb.hit_true hb
    obtain ⟨ga, oa, hada, hcell0, hcell1⟩ := hca _ r hr
    have hpl := (List.getElem?_eq_some_iff.1 hr).1
    refine Sx.seq (fun K7 hK7 => ?_)
    refine Sx.plain ?_
    refine Sx.sv F (Sx.d_move F (Or.inl rfl) rfl) (Sx.wanted_none rfl _) rfl (by decide) (fun A F => ?_)
    refine Sx.sv F (Sx.d_move F (Or.inl rfl) rfl) (Sx.wanted_none rfl _) rfl (by decide) (fun A F => ?_)
    refine Sx.sw F (Sx.d_call (vs := [.pointer (some ⟨tb, 0, none⟩), .int .i64 h]) (v := .tuple #[.int .i64 (Tb.pos h sT.l), .bool true]) if_67 F H rfl rfl (Calls.val (tfind_c sT hok h _ _ (Tb.See.lift ⟨_, hc0, hc1, ada, capa, rfl, hca⟩ H.below)) rfl (by rw [hb]))) (Sx.wanted_none rfl _) rfl (by decide) (fun A w F H => ?_)
    refine Sx.sv F (Sx.d_move F (Or.inl rfl) rfl) (Sx.wanted_none rfl _) rfl (by decide) (fun A F => ?_)
    refine Sx.sv F (Sx.d_extract (v := .int .i64 (Tb.pos h sT.l)) F rfl rfl rfl) (Sx.wanted_none rfl _) rfl (by decide) (fun A F => ?_)
    refine Sx.sv F (Sx.d_extract (v := .bool true) F rfl rfl rfl) (Sx.wanted_none rfl _) rfl (by decide) (fun A F => ?_)
    refine Sx.sv F (Sx.d_move F (Or.inr rfl) rfl) (Sx.wanted_none rfl _) rfl (by decide) (fun A F => ?_)
    refine Sx.sv F (Sx.d_move F (Or.inr rfl) rfl) (Sx.wanted_none rfl _) rfl (by decide) (fun A F => ?_)
    refine Sx.nil ?_
    refine hK7 _ _ ?_
    refine Sx.seq (fun K8 hK8 => ?_)
    refine Sx.seq (fun K9 hK9 => ?_)
    refine Sx.plain ?_
    refine Sx.sv F (Sx.d_move F (Or.inl rfl) rfl) (Sx.wanted_none rfl _) rfl (by decide) (fun A F => ?_)
    refine Sx.sv F (Sx.d_un (v := .bool false) F rfl rfl rfl) (Sx.wanted_none rfl _) rfl (by decide) (fun A F => ?_)
    refine Sx.nil ?_
    refine hK9 _ _ ?_
    refine Sx.condF F rfl ?_
    refine wp_skip ?_
    refine hK8 _ _ ?_
    refine Sx.seq (fun K10 hK10 => ?_)
    refine Sx.plain ?_
    refine Sx.sv F (Sx.d_move F (Or.inl rfl) rfl) (Sx.wanted_none rfl _) rfl (by decide) (fun A F => ?_)
    refine Sx.sv F (Sx.d_nil F rfl rfl) (Sx.wanted_none rfl _) rfl (by decide) (fun A F => ?_)
    refine Sx.sv F (Sx.d_faddr (v := .pointer (some ⟨tb, 0, none⟩)) F rfl rfl (fa_101_0 _ (0) _)) (Sx.wanted_none rfl _) rfl (by decide) (fun A F => ?_)
    refine Sx.sv F (Sx.d_loadF one_99 F H rfl rfl hc0) (Sx.wanted_none rfl _) rfl (by decide) (fun A F => ?_)
    refine Sx.sv F (Sx.d_move F (Or.inl rfl) rfl) (Sx.wanted_none rfl _) rfl (by decide) (fun A F => ?_)
    refine Sx.sv F (Sx.d_ixZ (k := (Tb.pos h sT.l)) (g := ga) (off := oa) (z := 2) el_99 F rfl rfl hada rfl (rfl) (by omega)) (Sx.wanted_none rfl _) rfl (by decide) (fun A F => ?_)
    refine Sx.sv F (Sx.d_faddr (v := .pointer (some ⟨ga, oa + (Tb.pos h sT.l) * 2 + 1, none⟩)) F rfl rfl (fa_107_1 _ (oa + (Tb.pos h sT.l) * 2) _)) (Sx.wanted_none rfl _) rfl (by decide) (fun A F => ?_)
    refine Sx.sv F (Sx.d_loadF one_22 F H rfl rfl hcell1) (Sx.wanted_none rfl _) rfl (by decide) (fun A F => ?_)
    refine Sx.sv F (Sx.d_move F (Or.inr rfl) rfl) (Sx.wanted_none rfl _) rfl (by decide) (fun A F => ?_)
    refine Sx.sv F (Sx.d_move F (Or.inr rfl) rfl) (Sx.wanted_none rfl _) rfl (by decide) (fun A F => ?_)
    refine Sx.nil ?_
    refine hK10 _ _ ?_
    refine wp_ret ?_
    try dsimp only [Exit.then, Exit.inBlock, Exit.jump]
    refine Sx.ret2 F Try.results43 (Sx.res_tmp (v := .int .u64 r.2.toNat) F rfl) (Sx.res_tmp (v := .bool true) F rfl) ⟨?_, H.below⟩
    unfold Tb.S.val Tb.S.has; rw [Tb.val_pos hok.rise h hr he, ← Tb.hit_pos hok.rise h, hb]; rfl
theorem tget_c (sT : Tb.S) (hok : sT.ok) (h : Int) (tb : Nat) (w0 : World) (hs : Tb.See w0 tb sT) : Calls Try.prog 43 #[.pointer (some ⟨tb, 0, none⟩), .int .i64 h] w0 fun e w' => e = .returned (.tuple #[.int .u64 ((Tb.S.val sT h).toNat), .bool (Tb.S.has sT h)]) ∧ Below w0.heap.size w0 w' := by
  obtain ⟨v, hc0, hc1, ada, capa, rfl, hca⟩ := hs
  exact tget_s sT hok h tb w0 ada capa hc0 hc1 hca
set_option maxRecDepth 100000 in
theorem tnext0_s (sT : Tb.S) (hok : sT.ok) (tb : Nat) (w0 : World) (ada : Option Addr) (capa : Nat) (hc0 : w0.cell? ⟨tb, 0, none⟩ = some (.slice ada sT.l.length capa)) (hc1 : w0.cell? ⟨tb, 1, none⟩ = some (.int .i64 sT.n)) (hca : ∀ k r, sT.l[k]? = some r → ∃ g o, ada = some ⟨g, o, none⟩ ∧ w0.cell? ⟨g, o + k * 2, none⟩ = some (.int .i64 r.1) ∧ w0.cell? ⟨g, o + k * 2 + 1, none⟩ = some (.int .u64 (r.2.toNat : Nat))) : Calls Try.prog 45 #[.pointer (some ⟨tb, 0, none⟩)] w0 fun e w' => e = .returned (.int .i64 sT.n) ∧ Below w0.heap.size w0 w' := by
  refine Sx.enter (args := [.pointer (some ⟨tb, 0, none⟩)]) Try.func45 rfl Try.ntmps45 (Nat.le_of_ble_eq_true rfl) (fun A F => ?_)
  have H := Sx.Own.start w0
  refine Sx.seq (fun K1 hK1 => ?_)
  refine Sx.plain ?_
  refine Sx.sv F (Sx.d_move F (Or.inr rfl) rfl) (Sx.wanted_none rfl _) rfl (by decide) (fun A F => ?_)
  refine Sx.nil ?_
  refine hK1 _ _ ?_
  refine Sx.seq (fun K2 hK2 => ?_)
  refine Sx.plain ?_
  refine Sx.sv F (Sx.d_move F (Or.inl rfl) rfl) (Sx.wanted_none rfl _) rfl (by decide) (fun A F => ?_)
  refine Sx.sv F (Sx.d_nil F rfl rfl) (Sx.wanted_none rfl _) rfl (by decide) (fun A F => ?_)
  refine Sx.sv F (Sx.d_faddr (v := .pointer (some ⟨tb, 1, none⟩)) F rfl rfl (fa_101_1 _ (0) _)) (Sx.wanted_none rfl _) rfl (by decide) (fun A F => ?_)
  refine Sx.sv F (Sx.d_loadF one_3 F H rfl rfl hc1) (Sx.wanted_none rfl _) rfl (by decide) (fun A F => ?_)
  refine Sx.sv F (Sx.d_move F (Or.inr rfl) rfl) (Sx.wanted_none rfl _) rfl (by decide) (fun A F => ?_)
  refine Sx.nil ?_
  refine hK2 _ _ ?_
  refine wp_ret ?_
  try dsimp only [Exit.then, Exit.inBlock, Exit.jump]
  refine Sx.ret1 F Try.results45 (Sx.res_tmp (v := .int .i64 sT.n) F rfl) ⟨?_, H.below⟩
  rfl
theorem tnext0_c (sT : Tb.S) (hok : sT.ok) (tb : Nat) (w0 : World) (hs : Tb.See w0 tb sT) : Calls Try.prog 45 #[.pointer (some ⟨tb, 0, none⟩)] w0 fun e w' => e = .returned (.int .i64 sT.n) ∧ Below w0.heap.size w0 w' := by
  obtain ⟨v, hc0, hc1, ada, capa, rfl, hca⟩ := hs
  exact tnext0_s sT hok tb w0 ada capa hc0 hc1 hca
theorem tnext_c (sT : Tb.S) (tb : Nat) (w0 : World) (hs : Tb.See w0 tb sT) (hok : sT.ok) : Calls Try.prog 45 #[.pointer (some ⟨tb, 0, none⟩)] w0 fun e w' => e = .returned (.int .i64 sT.n) ∧ Below w0.heap.size w0 w' := tnext0_c sT hok tb w0 hs
set_option maxRecDepth 100000 in
theorem thandles_s (sT : Tb.S) (hok : sT.ok) (tb : Nat) (w0 : World) (ada : Option Addr) (capa : Nat) (hc0 : w0.cell? ⟨tb, 0, none⟩ = some (.slice ada sT.l.length capa)) (hc1 : w0.cell? ⟨tb, 1, none⟩ = some (.int .i64 sT.n)) (hca : ∀ k r, sT.l[k]? = some r → ∃ g o, ada = some ⟨g, o, none⟩ ∧ w0.cell? ⟨g, o + k * 2, none⟩ = some (.int .i64 r.1) ∧ w0.cell? ⟨g, o + k * 2 + 1, none⟩ = some (.int .u64 (r.2.toNat : Nat))) : Calls Try.prog 47 #[.pointer (some ⟨tb, 0, none⟩)] w0 fun e w' => ∃ v, e = .returned v ∧ w'.ownsRow w0.heap.size 3 1 v sT.l.length (Tb.hs sT.l) ∧ Below w0.heap.size w0 w' := by
  refine Sx.enter (args := [.pointer (some ⟨tb, 0, none⟩)]) Try.func47 rfl Try.ntmps47 (Nat.le_of_ble_eq_true rfl) (fun A F => ?_)
  have H := Sx.Own.start w0
  refine Sx.seq (fun K1 hK1 => ?_)
  refine Sx.plain ?_
  refine Sx.sv F (Sx.d_move F (Or.inr rfl) rfl) (Sx.wanted_none rfl _) rfl (by decide) (fun A F => ?_)
  refine Sx.nil ?_
  refine hK1 _ _ ?_
  refine Sx.seq (fun K2 hK2 => ?_)
  refine Sx.plain ?_
  refine Sx.sv F (Sx.d_move F (Or.inr rfl) rfl) (Sx.wanted_none rfl _) rfl (by decide) (fun A F => ?_)
  refine Sx.nil ?_
  refine hK2 _ _ ?_
  refine Sx.seq (fun K3 hK3 => ?_)
  refine Sx.seq (fun K4 hK4 => ?_)
  refine Sx.plain ?_
  refine Sx.sv F (Sx.d_move F (Or.inl rfl) rfl) (Sx.wanted_none rfl _) rfl (by decide) (fun A F => ?_)
  refine Sx.sv F (Sx.d_nil F rfl rfl) (Sx.wanted_none rfl _) rfl (by decide) (fun A F => ?_)
  refine Sx.sv F (Sx.d_faddr (v := .pointer (some ⟨tb, 0, none⟩)) F rfl rfl (fa_101_0 _ (0) _)) (Sx.wanted_none rfl _) rfl (by decide) (fun A F => ?_)
  refine Sx.sv F (Sx.d_loadF one_99 F H rfl rfl hc0) (Sx.wanted_none rfl _) rfl (by decide) (fun A F => ?_)
  refine Sx.sv F (Sx.d_lenS el_99 F rfl rfl) (Sx.wanted_none rfl _) rfl (by decide) (fun A F => ?_)
  refine Sx.sv F (Sx.d_move F (Or.inl rfl) rfl) (Sx.wanted_none rfl _) rfl (by decide) (fun A F => ?_)
  refine Sx.nil ?_
  refine hK4 _ _ ?_
  refine wp_block ?_
  have H := Sx.Own.nilR H 3 1
  refine Sx.loop (fun q A w => ∃ (i : Nat) (v : Value), q = sT.l.length - i ∧ i ≤ sT.l.length ∧ Sx.Fr 22 A [(9, .slice ada sT.l.length capa), (10, .int .i64 sT.l.length), (3, v), (11, .int .i64 i)] ∧ Sx.Own w0 w [] [⟨true, v, 3, 1, i, (Tb.hs (sT.l.take i))⟩]) sT.l.length ⟨0, .slice none 0 0, rfl, Nat.zero_le _, F.to ⟨rfl, rfl, rfl, rfl, trivial⟩, H.to' [] [0] (by decide) (by decide) rfl rfl⟩ ?_
  rintro q A w ⟨i, v, rfl, hi, F, H⟩
  have hfew := hok.few
  by_cases hlt : i < sT.l.length
  · obtain ⟨r, hr⟩ : ∃ r, sT.l[i]? = some r := ⟨_, List.getElem?_eq_getElem hlt⟩
    obtain ⟨ga, oa, hada, hcell0, hcell1⟩ := hca i r hr
    refine Sx.seq (fun K5 hK5 => ?_)
    refine Sx.plain ?_
    refine Sx.sv F (Sx.d_bin (v := .bool true) F rfl rfl rfl (Sx.i_lt (decide_eq_true (by omega)))) (Sx.wanted_none rfl _) rfl (by decide) (fun A F => ?_)
    refine Sx.nil ?_
    refine hK5 _ _ ?_
    refine Sx.seq (fun K6 hK6 => ?_)
    refine Sx.condT F rfl ?_
    refine wp_skip ?_
    refine hK6 _ _ ?_
    refine Sx.seq (fun K7 hK7 => ?_)
    refine wp_block ?_
    refine Sx.seq (fun K8 hK8 => ?_)
    refine Sx.plain ?_
    refine Sx.sv F (Sx.d_ixZ (k := i) (g := ga) (off := oa) (z := 2) el_99 F rfl rfl hada rfl (rfl) (by omega)) (Sx.wanted_none rfl _) rfl (by decide) (fun A F => ?_)
    refine Sx.sv F (Sx.d_loadF2 rw_107 F H rfl rfl hcell0 hcell1) (Sx.wanted_none rfl _) rfl (by decide) (fun A F => ?_)
    refine Sx.sb F (Sx.d_alloc H rfl [.int .i64 0, .int .u64 0] zero_107) (Sx.wanted_none rfl _) rfl (by decide) (fun g1 A w F H => ?_)
    refine Sx.ss F (Sx.d_store (i := 0) (xs := [.int .i64 r.1, .int .u64 r.2.toNat]) (us := [.int .i64 r.1, .int .u64 r.2.toNat]) sz_107 F H rfl rfl rfl rfl rfl rfl rfl (Nat.le_of_ble_eq_true rfl) rfl) (Sx.wanted_none rfl _) rfl (fun A w F (H : Sx.Own w0 _ [(true, g1, [.int .i64 r.1, .int .u64 r.2.toNat])] [⟨true, v, 3, 1, i, (Tb.hs (sT.l.take i))⟩]) => ?_)
    refine Sx.nil ?_
    refine hK8 _ _ ?_
    refine Sx.plain ?_
    refine Sx.sv F (Sx.d_move F (Or.inl rfl) rfl) (Sx.wanted_none rfl _) rfl (by decide) (fun A F => ?_)
    refine Sx.sv F (Sx.d_faddr (v := .pointer (some ⟨g1, 0, none⟩)) F rfl rfl (fa_107_0 _ 0 _)) (Sx.wanted_none rfl _) rfl (by decide) (fun A F => ?_)
    refine Sx.sv F (Sx.d_load1 (i := 0) (v := .int .i64 r.1) one_3 F H rfl rfl rfl rfl) (Sx.wanted_none rfl _) rfl (by decide) (fun A F => ?_)
    refine Sx.sg (mk := fun g => .slice (some ⟨g, 0, none⟩) 1 1) F (Sx.d_lit (qs := #[(0, .int .i64 r.1)]) (cs := #[.int .i64 r.1]) (E := 3) F H rfl rfl (fun _ => by kernel_rfl)) (Sx.wanted_none rfl _) rfl (by decide) (fun g2 A w F (H : Sx.Own w0 _ [(true, g2, [.int .i64 r.1]), (true, g1, [.int .i64 r.1, .int .u64 r.2.toNat])] [⟨true, v, 3, 1, i, (Tb.hs (sT.l.take i))⟩]) => ?_)
    refine Sx.sr (mk := fun v => v) F (Sx.d_append (i := 0) (j := 0) el_77 F H rfl rfl rfl rfl rfl rfl rfl rfl (by omega) (by decide)) (Sx.wanted_none rfl _) rfl (by decide) (fun v1 A w F (H : Sx.Own w0 _ [(true, g2, [.int .i64 r.1]), (true, g1, [.int .i64 r.1, .int .u64 r.2.toNat])] [⟨true, v1, 3, 1, (i + 1), (Tb.hs (sT.l.take i)) ++ [.int .i64 r.1]⟩]) => ?_)
    refine Sx.sv F (Sx.d_move F (Or.inr rfl) rfl) (Sx.wanted_none rfl _) rfl (by decide) (fun A F => ?_)
    refine Sx.nil ?_
    refine hK7 _ _ ?_
    refine Sx.plain ?_
    refine Sx.sv F (Sx.d_bin (v := .int .i64 (i + 1 : Nat)) F rfl rfl rfl (Sx.i_addN rfl (Sx.in_i64 _ (by omega)))) (Sx.wanted_none rfl _) rfl (by decide) (fun A F => ?_)
    refine Sx.sv F (Sx.d_move F (Or.inl rfl) rfl) (Sx.wanted_none rfl _) rfl (by decide) (fun A F => ?_)
    refine Sx.nil ?_
    try dsimp only [Exit.then]
    exact ⟨sT.l.length - (i + 1), by omega, i + 1, v1, rfl, by omega, F.to ⟨rfl, rfl, rfl, rfl, trivial⟩, by rw [← Tb.hs_snoc hr]; exact H.to' [] [0] (by decide) (by decide) rfl rfl⟩
  · have hie : i = sT.l.length := by omega
    rw [hie] at F H
    refine Sx.seq (fun K9 hK9 => ?_)
    refine Sx.plain ?_
    refine Sx.sv F (Sx.d_bin (v := .bool false) F rfl rfl rfl (Sx.i_lt (by simp))) (Sx.wanted_none rfl _) rfl (by decide) (fun A F => ?_)
    refine Sx.nil ?_
    refine hK9 _ _ ?_
    refine Sx.seq (fun K10 hK10 => ?_)
    refine Sx.condF F rfl ?_
    refine wp_exit ?_
    try dsimp only [Exit.then, Exit.jump]
    refine Sx.exit_here ?_
    refine hK3 _ _ ?_
    refine Sx.seq (fun K11 hK11 => ?_)
    refine Sx.plain ?_
    refine Sx.sv F (Sx.d_move F (Or.inl rfl) rfl) (Sx.wanted_none rfl _) rfl (by decide) (fun A F => ?_)
    refine Sx.sv F (Sx.d_move F (Or.inr rfl) rfl) (Sx.wanted_none rfl _) rfl (by decide) (fun A F => ?_)
    refine Sx.nil ?_
    refine hK11 _ _ ?_
    refine wp_ret ?_
    try dsimp only [Exit.then, Exit.inBlock, Exit.jump]
    refine Sx.ret1 F Try.results47 (Sx.res_tmp (v := v) F rfl) ?_
    exact ⟨_, rfl, Sx.rowEq (H.row 0 _ rfl rfl) rfl rfl rfl rfl (by rw [List.take_of_length_le (Nat.le_refl _)]), H.below⟩
theorem thandles_c (sT : Tb.S) (hok : sT.ok) (tb : Nat) (w0 : World) (hs : Tb.See w0 tb sT) : Calls Try.prog 47 #[.pointer (some ⟨tb, 0, none⟩)] w0 fun e w' => ∃ v, e = .returned v ∧ w'.ownsRow w0.heap.size 3 1 v sT.l.length (Tb.hs sT.l) ∧ Below w0.heap.size w0 w' := by
  obtain ⟨v, hc0, hc1, ada, capa, rfl, hca⟩ := hs
  exact thandles_s sT hok tb w0 ada capa hc0 hc1 hca
end Go.Proofs.Ytpbdffmgendboab
