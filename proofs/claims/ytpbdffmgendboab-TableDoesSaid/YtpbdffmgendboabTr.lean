/- The reference's table walked. -/
import Derived.Test.YtpbdffmgendboabTc
import Derived.Test.YtpbdffmgendboabTbMore
namespace Go.Proofs.Ytpbdffmgendboab
open Go Go.RowKit
set_option maxRecDepth 100000 in
theorem rtget_s (sT : Tb.S) (hok : sT.ok) (h : Int) (tb : Nat) (w0 : World) (ada : Option Addr) (capa : Nat) (hc0 : w0.cell? ⟨tb, 0, none⟩ = some (.slice ada sT.l.length capa)) (hc1 : w0.cell? ⟨tb, 1, none⟩ = some (.int .i64 sT.n)) (hca : ∀ k r, sT.l[k]? = some r → ∃ g o, ada = some ⟨g, o, none⟩ ∧ w0.cell? ⟨g, o + k * 2, none⟩ = some (.int .i64 r.1) ∧ w0.cell? ⟨g, o + k * 2 + 1, none⟩ = some (.int .u64 (r.2.toNat : Nat))) : Calls Try.prog 44 #[.pointer (some ⟨tb, 0, none⟩), .int .i64 h] w0 fun e w' => e = .returned (.tuple #[.int .u64 ((Tb.S.val sT h).toNat), .bool (Tb.S.has sT h)]) ∧ Below w0.heap.size w0 w' := by
  refine Sx.enter (args := [.pointer (some ⟨tb, 0, none⟩), .int .i64 h]) Try.func44 rfl Try.ntmps44 (Nat.le_of_ble_eq_true rfl) (fun A F => ?_)
  have H := Sx.Own.start w0
  refine Sx.seq (fun K1 hK1 => ?_)
  refine Sx.plain ?_
  refine Sx.sv F (Sx.d_move F (Or.inr rfl) rfl) (Sx.wanted_none rfl _) rfl (by decide) (fun A F => ?_)
  refine Sx.sv F (Sx.d_move F (Or.inr rfl) rfl) (Sx.wanted_none rfl _) rfl (by decide) (fun A F => ?_)
  refine Sx.nil ?_
  refine hK1 _ _ ?_
  refine Sx.seq (fun K2 hK2 => ?_)
  refine Sx.seq (fun K3 hK3 => ?_)
  refine Sx.plain ?_
  refine Sx.sv F (Sx.d_move F (Or.inr rfl) rfl) (Sx.wanted_none rfl _) rfl (by decide) (fun A F => ?_)
  refine Sx.nil ?_
  refine hK3 _ _ ?_
  refine wp_block ?_
  refine Sx.loop (fun q A w => ∃ i : Nat, q = sT.l.length - i ∧ i ≤ sT.l.length ∧ (∀ k q, sT.l[k]? = some q → k < i → q.1 ≠ h) ∧ Sx.Fr 34 A [(0, .pointer (some ⟨tb, 0, none⟩)), (1, .int .i64 h), (6, .int .i64 i)] ∧ Sx.Own w0 w [] []) sT.l.length ⟨0, rfl, Nat.zero_le _, fun k q _ hk => absurd hk (Nat.not_lt_zero _), F.to ⟨rfl, rfl, rfl, trivial⟩, H⟩ ?_
  rintro q A w ⟨i, rfl, hi, hno, F, H⟩
  have hfew := hok.few
  by_cases hlt : i < sT.l.length
  · obtain ⟨r, hr⟩ : ∃ r, sT.l[i]? = some r := ⟨_, List.getElem?_eq_getElem hlt⟩
    obtain ⟨ga, oa, hada, hcell0, hcell1⟩ := hca i r hr
    by_cases he : r.1 = h
    · skip
      obtain ⟨hf1, hf2⟩ := Tb.find_first h sT.l i r hr he hno
      refine Sx.seq (fun K4 hK4 => ?_)
      refine Sx.seq (fun K5 hK5 => ?_)
      refine Sx.plain ?_
      refine Sx.sv F (Sx.d_move F (Or.inl rfl) rfl) (Sx.wanted_none rfl _) rfl (by decide) (fun A F => ?_)
      refine Sx.sv F (Sx.d_move F (Or.inl rfl) rfl) (Sx.wanted_none rfl _) rfl (by decide) (fun A F => ?_)
      refine Sx.sv F (Sx.d_nil F rfl rfl) (Sx.wanted_none rfl _) rfl (by decide) (fun A F => ?_)
      refine Sx.sv F (Sx.d_faddr (v := .pointer (some ⟨tb, 0, none⟩)) F rfl rfl (fa_64_0 _ (0) _)) (Sx.wanted_none rfl _) rfl (by decide) (fun A F => ?_)
      refine Sx.sv F (Sx.d_loadF one_62 F H rfl rfl hc0) (Sx.wanted_none rfl _) rfl (by decide) (fun A F => ?_)
      refine Sx.sv F (Sx.d_lenS el_62 F rfl rfl) (Sx.wanted_none rfl _) rfl (by decide) (fun A F => ?_)
      refine Sx.sv F (Sx.d_bin (v := .bool true) F rfl rfl rfl (Sx.i_lt (decide_eq_true (by omega)))) (Sx.wanted_none rfl _) rfl (by decide) (fun A F => ?_)
      refine Sx.nil ?_
      refine hK5 _ _ ?_
      refine Sx.condT F rfl ?_
      refine wp_skip ?_
      refine hK4 _ _ ?_
      refine Sx.seq (fun K6 hK6 => ?_)
      refine wp_block ?_
      refine Sx.seq (fun K7 hK7 => ?_)
      refine Sx.plain ?_
      refine Sx.sv F (Sx.d_move F (Or.inl rfl) rfl) (Sx.wanted_none rfl _) rfl (by decide) (fun A F => ?_)
      refine Sx.sv F (Sx.d_nil F rfl rfl) (Sx.wanted_none rfl _) rfl (by decide) (fun A F => ?_)
      refine Sx.sv F (Sx.d_faddr (v := .pointer (some ⟨tb, 0, none⟩)) F rfl rfl (fa_64_0 _ (0) _)) (Sx.wanted_none rfl _) rfl (by decide) (fun A F => ?_)
      refine Sx.sv F (Sx.d_loadF one_62 F H rfl rfl hc0) (Sx.wanted_none rfl _) rfl (by decide) (fun A F => ?_)
      refine Sx.sv F (Sx.d_move F (Or.inl rfl) rfl) (Sx.wanted_none rfl _) rfl (by decide) (fun A F => ?_)
      refine Sx.sv F (Sx.d_ixZ (k := i) (g := ga) (off := oa) (z := 2) el_62 F rfl rfl hada rfl (rfl) (by omega)) (Sx.wanted_none rfl _) rfl (by decide) (fun A F => ?_)
      refine Sx.sv F (Sx.d_faddr (v := .pointer (some ⟨ga, oa + i * 2, none⟩)) F rfl rfl (fa_103_0 _ (oa + i * 2) _)) (Sx.wanted_none rfl _) rfl (by decide) (fun A F => ?_)
      refine Sx.sv F (Sx.d_loadF one_3 F H rfl rfl hcell0) (Sx.wanted_none rfl _) rfl (by decide) (fun A F => ?_)
      refine Sx.sv F (Sx.d_move F (Or.inl rfl) rfl) (Sx.wanted_none rfl _) rfl (by decide) (fun A F => ?_)
      refine Sx.sv F (Sx.d_bin (v := .bool true) F rfl rfl rfl (Sx.i_eq (beq_iff_eq.2 he))) (Sx.wanted_none rfl _) rfl (by decide) (fun A F => ?_)
      refine Sx.nil ?_
      refine hK7 _ _ ?_
      refine Sx.condT F rfl ?_
      refine Sx.seq (fun K8 hK8 => ?_)
      refine Sx.plain ?_
      refine Sx.sv F (Sx.d_move F (Or.inl rfl) rfl) (Sx.wanted_none rfl _) rfl (by decide) (fun A F => ?_)
      refine Sx.sv F (Sx.d_nil F rfl rfl) (Sx.wanted_none rfl _) rfl (by decide) (fun A F => ?_)
      refine Sx.sv F (Sx.d_faddr (v := .pointer (some ⟨tb, 0, none⟩)) F rfl rfl (fa_64_0 _ (0) _)) (Sx.wanted_none rfl _) rfl (by decide) (fun A F => ?_)
      refine Sx.sv F (Sx.d_loadF one_62 F H rfl rfl hc0) (Sx.wanted_none rfl _) rfl (by decide) (fun A F => ?_)
      refine Sx.sv F (Sx.d_move F (Or.inl rfl) rfl) (Sx.wanted_none rfl _) rfl (by decide) (fun A F => ?_)
      refine Sx.sv F (Sx.d_ixZ (k := i) (g := ga) (off := oa) (z := 2) el_62 F rfl rfl hada rfl (rfl) (by omega)) (Sx.wanted_none rfl _) rfl (by decide) (fun A F => ?_)
      refine Sx.sv F (Sx.d_faddr (v := .pointer (some ⟨ga, oa + i * 2 + 1, none⟩)) F rfl rfl (fa_103_1 _ (oa + i * 2) _)) (Sx.wanted_none rfl _) rfl (by decide) (fun A F => ?_)
      refine Sx.sv F (Sx.d_loadF one_22 F H rfl rfl hcell1) (Sx.wanted_none rfl _) rfl (by decide) (fun A F => ?_)
      refine Sx.sv F (Sx.d_move F (Or.inr rfl) rfl) (Sx.wanted_none rfl _) rfl (by decide) (fun A F => ?_)
      refine Sx.sv F (Sx.d_move F (Or.inr rfl) rfl) (Sx.wanted_none rfl _) rfl (by decide) (fun A F => ?_)
      refine Sx.nil ?_
      refine hK8 _ _ ?_
      refine wp_ret ?_
      try dsimp only [Exit.then, Exit.inBlock, Exit.jump]
      refine Sx.ret2 F Try.results44 (Sx.res_tmp (v := .int .u64 r.2.toNat) F rfl) (Sx.res_tmp (v := .bool true) F rfl) ⟨?_, H.below⟩
      unfold Tb.S.val Tb.S.has; rw [hf1, hf2]; rfl
    · skip
      refine Sx.seq (fun K9 hK9 => ?_)
      refine Sx.seq (fun K10 hK10 => ?_)
      refine Sx.plain ?_
      refine Sx.sv F (Sx.d_move F (Or.inl rfl) rfl) (Sx.wanted_none rfl _) rfl (by decide) (fun A F => ?_)
      refine Sx.sv F (Sx.d_move F (Or.inl rfl) rfl) (Sx.wanted_none rfl _) rfl (by decide) (fun A F => ?_)
      refine Sx.sv F (Sx.d_nil F rfl rfl) (Sx.wanted_none rfl _) rfl (by decide) (fun A F => ?_)
      refine Sx.sv F (Sx.d_faddr (v := .pointer (some ⟨tb, 0, none⟩)) F rfl rfl (fa_64_0 _ (0) _)) (Sx.wanted_none rfl _) rfl (by decide) (fun A F => ?_)
      refine Sx.sv F (Sx.d_loadF one_62 F H rfl rfl hc0) (Sx.wanted_none rfl _) rfl (by decide) (fun A F => ?_)
      refine Sx.sv F (Sx.d_lenS el_62 F rfl rfl) (Sx.wanted_none rfl _) rfl (by decide) (fun A F => ?_)
      refine Sx.sv F (Sx.d_bin (v := .bool true) F rfl rfl rfl (Sx.i_lt (decide_eq_true (by omega)))) (Sx.wanted_none rfl _) rfl (by decide) (fun A F => ?_)
      refine Sx.nil ?_
      refine hK10 _ _ ?_
      refine Sx.condT F rfl ?_
      refine wp_skip ?_
      refine hK9 _ _ ?_
      refine Sx.seq (fun K11 hK11 => ?_)
      refine wp_block ?_
      refine Sx.seq (fun K12 hK12 => ?_)
      refine Sx.plain ?_
      refine Sx.sv F (Sx.d_move F (Or.inl rfl) rfl) (Sx.wanted_none rfl _) rfl (by decide) (fun A F => ?_)
      refine Sx.sv F (Sx.d_nil F rfl rfl) (Sx.wanted_none rfl _) rfl (by decide) (fun A F => ?_)
      refine Sx.sv F (Sx.d_faddr (v := .pointer (some ⟨tb, 0, none⟩)) F rfl rfl (fa_64_0 _ (0) _)) (Sx.wanted_none rfl _) rfl (by decide) (fun A F => ?_)
      refine Sx.sv F (Sx.d_loadF one_62 F H rfl rfl hc0) (Sx.wanted_none rfl _) rfl (by decide) (fun A F => ?_)
      refine Sx.sv F (Sx.d_move F (Or.inl rfl) rfl) (Sx.wanted_none rfl _) rfl (by decide) (fun A F => ?_)
      refine Sx.sv F (Sx.d_ixZ (k := i) (g := ga) (off := oa) (z := 2) el_62 F rfl rfl hada rfl (rfl) (by omega)) (Sx.wanted_none rfl _) rfl (by decide) (fun A F => ?_)
      refine Sx.sv F (Sx.d_faddr (v := .pointer (some ⟨ga, oa + i * 2, none⟩)) F rfl rfl (fa_103_0 _ (oa + i * 2) _)) (Sx.wanted_none rfl _) rfl (by decide) (fun A F => ?_)
      refine Sx.sv F (Sx.d_loadF one_3 F H rfl rfl hcell0) (Sx.wanted_none rfl _) rfl (by decide) (fun A F => ?_)
      refine Sx.sv F (Sx.d_move F (Or.inl rfl) rfl) (Sx.wanted_none rfl _) rfl (by decide) (fun A F => ?_)
      refine Sx.sv F (Sx.d_bin (v := .bool false) F rfl rfl rfl (Sx.i_eq (beq_false_of_ne he))) (Sx.wanted_none rfl _) rfl (by decide) (fun A F => ?_)
      refine Sx.nil ?_
      refine hK12 _ _ ?_
      refine Sx.condF F rfl ?_
      refine wp_skip ?_
      refine hK11 _ _ ?_
      refine Sx.plain ?_
      refine Sx.sv F (Sx.d_move F (Or.inl rfl) rfl) (Sx.wanted_none rfl _) rfl (by decide) (fun A F => ?_)
      refine Sx.sv F (Sx.d_bin (v := .int .i64 (i + 1 : Nat)) F rfl rfl rfl (Sx.i_addN rfl (Sx.in_i64 _ (by omega)))) (Sx.wanted_none rfl _) rfl (by decide) (fun A F => ?_)
      refine Sx.sv F (Sx.d_move F (Or.inr rfl) rfl) (Sx.wanted_none rfl _) rfl (by decide) (fun A F => ?_)
      refine Sx.nil ?_
      try dsimp only [Exit.then]
      refine ⟨sT.l.length - (i + 1), by omega, i + 1, rfl, by omega, ?_, F.to ⟨rfl, rfl, rfl, trivial⟩, H⟩
      intro k q hk hki
      rcases Nat.lt_or_ge k i with hq | hq
      · exact hno k q hk hq
      · obtain rfl : k = i := by omega
        rw [hk] at hr; cases hr; exact he
  · have hie : i = sT.l.length := by omega
    rw [hie] at F hno
    have hn := Tb.any_none h hno
    refine Sx.seq (fun K13 hK13 => ?_)
    refine Sx.seq (fun K14 hK14 => ?_)
    refine Sx.plain ?_
    refine Sx.sv F (Sx.d_move F (Or.inl rfl) rfl) (Sx.wanted_none rfl _) rfl (by decide) (fun A F => ?_)
    refine Sx.sv F (Sx.d_move F (Or.inl rfl) rfl) (Sx.wanted_none rfl _) rfl (by decide) (fun A F => ?_)
    refine Sx.sv F (Sx.d_nil F rfl rfl) (Sx.wanted_none rfl _) rfl (by decide) (fun A F => ?_)
    refine Sx.sv F (Sx.d_faddr (v := .pointer (some ⟨tb, 0, none⟩)) F rfl rfl (fa_64_0 _ (0) _)) (Sx.wanted_none rfl _) rfl (by decide) (fun A F => ?_)
    refine Sx.sv F (Sx.d_loadF one_62 F H rfl rfl hc0) (Sx.wanted_none rfl _) rfl (by decide) (fun A F => ?_)
    refine Sx.sv F (Sx.d_lenS el_62 F rfl rfl) (Sx.wanted_none rfl _) rfl (by decide) (fun A F => ?_)
    refine Sx.sv F (Sx.d_bin (v := .bool false) F rfl rfl rfl (Sx.i_lt (by simp))) (Sx.wanted_none rfl _) rfl (by decide) (fun A F => ?_)
    refine Sx.nil ?_
    refine hK14 _ _ ?_
    refine Sx.condF F rfl ?_
    refine wp_exit ?_
    try dsimp only [Exit.then, Exit.jump]
    refine Sx.exit_here ?_
    refine hK2 _ _ ?_
    refine Sx.seq (fun K15 hK15 => ?_)
    refine Sx.plain ?_
    refine Sx.sv F (Sx.d_move F (Or.inr rfl) rfl) (Sx.wanted_none rfl _) rfl (by decide) (fun A F => ?_)
    refine Sx.sv F (Sx.d_move F (Or.inr rfl) rfl) (Sx.wanted_none rfl _) rfl (by decide) (fun A F => ?_)
    refine Sx.nil ?_
    refine hK15 _ _ ?_
    refine wp_ret ?_
    try dsimp only [Exit.then, Exit.inBlock, Exit.jump]
    refine Sx.ret2 F Try.results44 (Sx.res_tmp (v := .int .u64 0) F rfl) (Sx.res_tmp (v := .bool false) F rfl) ⟨?_, H.below⟩
    unfold Tb.S.val Tb.S.has; rw [Tb.find_none h hn, hn]; rfl
theorem rtget_c (sT : Tb.S) (hok : sT.ok) (h : Int) (tb : Nat) (w0 : World) (hs : Tb.See w0 tb sT) : Calls Try.prog 44 #[.pointer (some ⟨tb, 0, none⟩), .int .i64 h] w0 fun e w' => e = .returned (.tuple #[.int .u64 ((Tb.S.val sT h).toNat), .bool (Tb.S.has sT h)]) ∧ Below w0.heap.size w0 w' := by
  obtain ⟨v, hc0, hc1, ada, capa, rfl, hca⟩ := hs
  exact rtget_s sT hok h tb w0 ada capa hc0 hc1 hca
set_option maxRecDepth 100000 in
theorem rthandles_s (sT : Tb.S) (hok : sT.ok) (tb : Nat) (w0 : World) (ada : Option Addr) (capa : Nat) (hc0 : w0.cell? ⟨tb, 0, none⟩ = some (.slice ada sT.l.length capa)) (hc1 : w0.cell? ⟨tb, 1, none⟩ = some (.int .i64 sT.n)) (hca : ∀ k r, sT.l[k]? = some r → ∃ g o, ada = some ⟨g, o, none⟩ ∧ w0.cell? ⟨g, o + k * 2, none⟩ = some (.int .i64 r.1) ∧ w0.cell? ⟨g, o + k * 2 + 1, none⟩ = some (.int .u64 (r.2.toNat : Nat))) : Calls Try.prog 48 #[.pointer (some ⟨tb, 0, none⟩)] w0 fun e w' => ∃ v, e = .returned v ∧ w'.ownsRow w0.heap.size 3 1 v sT.l.length (Tb.hs sT.l) ∧ Below w0.heap.size w0 w' := by
  refine Sx.enter (args := [.pointer (some ⟨tb, 0, none⟩)]) Try.func48 rfl Try.ntmps48 (Nat.le_of_ble_eq_true rfl) (fun A F => ?_)
  have H := Sx.Own.start w0
  refine Sx.seq (fun K1 hK1 => ?_)
  refine Sx.plain ?_
  refine Sx.sv F (Sx.d_move F (Or.inr rfl) rfl) (Sx.wanted_none rfl _) rfl (by decide) (fun A F => ?_)
  refine Sx.nil ?_
  refine hK1 _ _ ?_
  refine Sx.seq (fun K2 hK2 => ?_)
  refine Sx.plain ?_
  refine Sx.sr (mk := fun v => v) F (Sx.d_litR (qs := #[]) (cs := #[]) (E := 3) (z := 1) F H rfl rfl (fun _ => by kernel_rfl) rfl (by decide)) (Sx.wanted_none rfl _) rfl (by decide) (fun v1 A w F (H : Sx.Own w0 _ [] [⟨true, v1, 3, 1, 0, []⟩]) => ?_)
  refine Sx.sv F (Sx.d_move F (Or.inr rfl) rfl) (Sx.wanted_none rfl _) rfl (by decide) (fun A F => ?_)
  refine Sx.nil ?_
  refine hK2 _ _ ?_
  refine Sx.seq (fun K3 hK3 => ?_)
  refine Sx.seq (fun K4 hK4 => ?_)
  refine Sx.plain ?_
  refine Sx.sv F (Sx.d_move F (Or.inr rfl) rfl) (Sx.wanted_none rfl _) rfl (by decide) (fun A F => ?_)
  refine Sx.nil ?_
  refine hK4 _ _ ?_
  refine wp_block ?_
  refine Sx.loop (fun q A w => ∃ (i : Nat) (v : Value), q = sT.l.length - i ∧ i ≤ sT.l.length ∧ Sx.Fr 27 A [(0, .pointer (some ⟨tb, 0, none⟩)), (3, v), (4, .int .i64 i)] ∧ Sx.Own w0 w [] [⟨true, v, 3, 1, i, (Tb.hs (sT.l.take i))⟩]) sT.l.length ⟨0, v1, rfl, Nat.zero_le _, F.to ⟨rfl, rfl, rfl, trivial⟩, H.to' [] [0] (by decide) (by decide) rfl rfl⟩ ?_
  rintro q A w ⟨i, v, rfl, hi, F, H⟩
  have hfew := hok.few
  by_cases hlt : i < sT.l.length
  · obtain ⟨r, hr⟩ : ∃ r, sT.l[i]? = some r := ⟨_, List.getElem?_eq_getElem hlt⟩
    obtain ⟨ga, oa, hada, hcell0, hcell1⟩ := hca i r hr
    refine Sx.seq (fun K5 hK5 => ?_)
    refine Sx.seq (fun K6 hK6 => ?_)
    refine Sx.plain ?_
    refine Sx.sv F (Sx.d_move F (Or.inl rfl) rfl) (Sx.wanted_none rfl _) rfl (by decide) (fun A F => ?_)
    refine Sx.sv F (Sx.d_move F (Or.inl rfl) rfl) (Sx.wanted_none rfl _) rfl (by decide) (fun A F => ?_)
    refine Sx.sv F (Sx.d_nil F rfl rfl) (Sx.wanted_none rfl _) rfl (by decide) (fun A F => ?_)
    refine Sx.sv F (Sx.d_faddr (v := .pointer (some ⟨tb, 0, none⟩)) F rfl rfl (fa_64_0 _ (0) _)) (Sx.wanted_none rfl _) rfl (by decide) (fun A F => ?_)
    refine Sx.sv F (Sx.d_loadF one_62 F H rfl rfl hc0) (Sx.wanted_none rfl _) rfl (by decide) (fun A F => ?_)
    refine Sx.sv F (Sx.d_lenS el_62 F rfl rfl) (Sx.wanted_none rfl _) rfl (by decide) (fun A F => ?_)
    refine Sx.sv F (Sx.d_bin (v := .bool true) F rfl rfl rfl (Sx.i_lt (decide_eq_true (by omega)))) (Sx.wanted_none rfl _) rfl (by decide) (fun A F => ?_)
    refine Sx.nil ?_
    refine hK6 _ _ ?_
    refine Sx.condT F rfl ?_
    refine wp_skip ?_
    refine hK5 _ _ ?_
    refine Sx.seq (fun K7 hK7 => ?_)
    refine wp_block ?_
    refine Sx.plain ?_
    refine Sx.sv F (Sx.d_move F (Or.inl rfl) rfl) (Sx.wanted_none rfl _) rfl (by decide) (fun A F => ?_)
    refine Sx.sv F (Sx.d_move F (Or.inl rfl) rfl) (Sx.wanted_none rfl _) rfl (by decide) (fun A F => ?_)
    refine Sx.sv F (Sx.d_nil F rfl rfl) (Sx.wanted_none rfl _) rfl (by decide) (fun A F => ?_)
    refine Sx.sv F (Sx.d_faddr (v := .pointer (some ⟨tb, 0, none⟩)) F rfl rfl (fa_64_0 _ (0) _)) (Sx.wanted_none rfl _) rfl (by decide) (fun A F => ?_)
    refine Sx.sv F (Sx.d_loadF one_62 F H rfl rfl hc0) (Sx.wanted_none rfl _) rfl (by decide) (fun A F => ?_)
    refine Sx.sv F (Sx.d_move F (Or.inl rfl) rfl) (Sx.wanted_none rfl _) rfl (by decide) (fun A F => ?_)
    refine Sx.sv F (Sx.d_ixZ (k := i) (g := ga) (off := oa) (z := 2) el_62 F rfl rfl hada rfl (rfl) (by omega)) (Sx.wanted_none rfl _) rfl (by decide) (fun A F => ?_)
    refine Sx.sv F (Sx.d_faddr (v := .pointer (some ⟨ga, oa + i * 2, none⟩)) F rfl rfl (fa_103_0 _ (oa + i * 2) _)) (Sx.wanted_none rfl _) rfl (by decide) (fun A F => ?_)
    refine Sx.sv F (Sx.d_loadF one_3 F H rfl rfl hcell0) (Sx.wanted_none rfl _) rfl (by decide) (fun A F => ?_)
    refine Sx.sg (mk := fun g => .slice (some ⟨g, 0, none⟩) 1 1) F (Sx.d_lit (qs := #[(0, .int .i64 r.1)]) (cs := #[.int .i64 r.1]) (E := 3) F H rfl rfl (fun _ => by kernel_rfl)) (Sx.wanted_none rfl _) rfl (by decide) (fun g1 A w F (H : Sx.Own w0 _ [(true, g1, [.int .i64 r.1])] [⟨true, v, 3, 1, i, (Tb.hs (sT.l.take i))⟩]) => ?_)
    refine Sx.sr (mk := fun v => v) F (Sx.d_append (i := 0) (j := 0) el_77 F H rfl rfl rfl rfl rfl rfl rfl rfl (by omega) (by decide)) (Sx.wanted_none rfl _) rfl (by decide) (fun v2 A w F (H : Sx.Own w0 _ [(true, g1, [.int .i64 r.1])] [⟨true, v2, 3, 1, (i + 1), (Tb.hs (sT.l.take i)) ++ [.int .i64 r.1]⟩]) => ?_)
    refine Sx.sv F (Sx.d_move F (Or.inr rfl) rfl) (Sx.wanted_none rfl _) rfl (by decide) (fun A F => ?_)
    refine Sx.nil ?_
    refine hK7 _ _ ?_
    refine Sx.plain ?_
    refine Sx.sv F (Sx.d_move F (Or.inl rfl) rfl) (Sx.wanted_none rfl _) rfl (by decide) (fun A F => ?_)
    refine Sx.sv F (Sx.d_bin (v := .int .i64 (i + 1 : Nat)) F rfl rfl rfl (Sx.i_addN rfl (Sx.in_i64 _ (by omega)))) (Sx.wanted_none rfl _) rfl (by decide) (fun A F => ?_)
    refine Sx.sv F (Sx.d_move F (Or.inr rfl) rfl) (Sx.wanted_none rfl _) rfl (by decide) (fun A F => ?_)
    refine Sx.nil ?_
    try dsimp only [Exit.then]
    exact ⟨sT.l.length - (i + 1), by omega, i + 1, v2, rfl, by omega, F.to ⟨rfl, rfl, rfl, trivial⟩, by rw [← Tb.hs_snoc hr]; exact H.to' [] [0] (by decide) (by decide) rfl rfl⟩
  · have hie : i = sT.l.length := by omega
    rw [hie] at F H
    refine Sx.seq (fun K8 hK8 => ?_)
    refine Sx.seq (fun K9 hK9 => ?_)
    refine Sx.plain ?_
    refine Sx.sv F (Sx.d_move F (Or.inl rfl) rfl) (Sx.wanted_none rfl _) rfl (by decide) (fun A F => ?_)
    refine Sx.sv F (Sx.d_move F (Or.inl rfl) rfl) (Sx.wanted_none rfl _) rfl (by decide) (fun A F => ?_)
    refine Sx.sv F (Sx.d_nil F rfl rfl) (Sx.wanted_none rfl _) rfl (by decide) (fun A F => ?_)
    refine Sx.sv F (Sx.d_faddr (v := .pointer (some ⟨tb, 0, none⟩)) F rfl rfl (fa_64_0 _ (0) _)) (Sx.wanted_none rfl _) rfl (by decide) (fun A F => ?_)
    refine Sx.sv F (Sx.d_loadF one_62 F H rfl rfl hc0) (Sx.wanted_none rfl _) rfl (by decide) (fun A F => ?_)
    refine Sx.sv F (Sx.d_lenS el_62 F rfl rfl) (Sx.wanted_none rfl _) rfl (by decide) (fun A F => ?_)
    refine Sx.sv F (Sx.d_bin (v := .bool false) F rfl rfl rfl (Sx.i_lt (by simp))) (Sx.wanted_none rfl _) rfl (by decide) (fun A F => ?_)
    refine Sx.nil ?_
    refine hK9 _ _ ?_
    refine Sx.condF F rfl ?_
    refine wp_exit ?_
    try dsimp only [Exit.then, Exit.jump]
    refine Sx.exit_here ?_
    refine hK3 _ _ ?_
    refine Sx.seq (fun K10 hK10 => ?_)
    refine Sx.plain ?_
    refine Sx.sv F (Sx.d_move F (Or.inl rfl) rfl) (Sx.wanted_none rfl _) rfl (by decide) (fun A F => ?_)
    refine Sx.sv F (Sx.d_move F (Or.inr rfl) rfl) (Sx.wanted_none rfl _) rfl (by decide) (fun A F => ?_)
    refine Sx.nil ?_
    refine hK10 _ _ ?_
    refine wp_ret ?_
    try dsimp only [Exit.then, Exit.inBlock, Exit.jump]
    refine Sx.ret1 F Try.results48 (Sx.res_tmp (v := v) F rfl) ?_
    exact ⟨_, rfl, Sx.rowEq (H.row 0 _ rfl rfl) rfl rfl rfl rfl (by rw [List.take_of_length_le (Nat.le_refl _)]), H.below⟩
theorem rthandles_c (sT : Tb.S) (hok : sT.ok) (tb : Nat) (w0 : World) (hs : Tb.See w0 tb sT) : Calls Try.prog 48 #[.pointer (some ⟨tb, 0, none⟩)] w0 fun e w' => ∃ v, e = .returned v ∧ w'.ownsRow w0.heap.size 3 1 v sT.l.length (Tb.hs sT.l) ∧ Below w0.heap.size w0 w' := by
  obtain ⟨v, hc0, hc1, ada, capa, rfl, hca⟩ := hs
  exact rthandles_s sT hok tb w0 ada capa hc0 hc1 hca
set_option maxRecDepth 100000 in
theorem rtlay_c (sT : Tb.S) (hok : sT.ok) (h : Int) (x : BitVec 64) (hh : -9223372036854775808 ≤ h ∧ h ≤ 9223372036854775807) (tb : Nat) (v : Value) (w0 w : World) (bs : List Sx.Bx) (rs : List Sx.Rx)  (H : Sx.Own w0 w ((true, tb, [v, .int .i64 sT.n]) :: bs) (⟨true, v, 103, 2, sT.l.length, (Tb.cells sT.l)⟩ :: rs)) : Calls Try.prog 41 #[.pointer (some ⟨tb, 0, none⟩), .int .i64 h, .int .u64 x.toNat] w fun e w' => e = .returned (.int .i64 (Tb.S.laye sT h)) ∧ ∃ v', Sx.Own w0 w' ((true, tb, [v', .int .i64 (Tb.S.lay sT h x).n]) :: bs) (⟨true, v', 103, 2, (Tb.S.lay sT h x).l.length, Tb.cells (Tb.S.lay sT h x).l⟩ :: rs) := by
  refine Sx.enter (args := [.pointer (some ⟨tb, 0, none⟩), .int .i64 h, .int .u64 x.toNat]) Try.func41 rfl Try.ntmps41 (Nat.le_of_ble_eq_true rfl) (fun A F => ?_)
  refine Sx.seq (fun K1 hK1 => ?_)
  refine Sx.plain ?_
  refine Sx.sv F (Sx.d_move F (Or.inr rfl) rfl) (Sx.wanted_none rfl _) rfl (by decide) (fun A F => ?_)
  refine Sx.nil ?_
  refine hK1 _ _ ?_
  have hfew := hok.few
  by_cases h16 : sT.l.length = 16
  · have e := Tb.lay_full (h := h) x h16
    refine Sx.seq (fun K2 hK2 => ?_)
    refine Sx.seq (fun K3 hK3 => ?_)
    refine Sx.plain ?_
    refine Sx.sv F (Sx.d_move F (Or.inl rfl) rfl) (Sx.wanted_none rfl _) rfl (by decide) (fun A F => ?_)
    refine Sx.sv F (Sx.d_nil F rfl rfl) (Sx.wanted_none rfl _) rfl (by decide) (fun A F => ?_)
    refine Sx.sv F (Sx.d_faddr (v := .pointer (some ⟨tb, 0, none⟩)) F rfl rfl (fa_64_0 _ 0 _)) (Sx.wanted_none rfl _) rfl (by decide) (fun A F => ?_)
    refine Sx.sv F (Sx.d_load1 (i := 0) (v := v) one_62 F H rfl rfl rfl rfl) (Sx.wanted_none rfl _) rfl (by decide) (fun A F => ?_)
    refine Sx.sv F (Sx.d_len (i := 0) el_62 F H rfl rfl rfl) (Sx.wanted_none rfl _) rfl (by decide) (fun A F => ?_)
    refine Sx.sv F (Sx.d_bin (v := .bool true) F rfl rfl rfl (Sx.i_ge (decide_eq_true (by omega)))) (Sx.wanted_none rfl _) rfl (by decide) (fun A F => ?_)
    refine Sx.nil ?_
    refine hK3 _ _ ?_
    refine Sx.condT F rfl ?_
    refine Sx.seq (fun K4 hK4 => ?_)
    refine Sx.plain ?_
    refine Sx.sv F (Sx.d_move F (Or.inr rfl) rfl) (Sx.wanted_none rfl _) rfl (by decide) (fun A F => ?_)
    refine Sx.nil ?_
    refine hK4 _ _ ?_
    refine wp_ret ?_
    try dsimp only [Exit.then, Exit.inBlock, Exit.jump]
    refine Sx.ret1 F Try.results41 (Sx.res_tmp (v := .int .i64 5) F rfl) ?_
    rw [e.1, e.2]
    exact ⟨rfl, v, H⟩
  · by_cases hk : h < sT.n
    · have e := Tb.lay_arg x h16 (.inl hk)
      refine Sx.seq (fun K5 hK5 => ?_)
      refine Sx.seq (fun K6 hK6 => ?_)
      refine Sx.plain ?_
      refine Sx.sv F (Sx.d_move F (Or.inl rfl) rfl) (Sx.wanted_none rfl _) rfl (by decide) (fun A F => ?_)
      refine Sx.sv F (Sx.d_nil F rfl rfl) (Sx.wanted_none rfl _) rfl (by decide) (fun A F => ?_)
      refine Sx.sv F (Sx.d_faddr (v := .pointer (some ⟨tb, 0, none⟩)) F rfl rfl (fa_64_0 _ 0 _)) (Sx.wanted_none rfl _) rfl (by decide) (fun A F => ?_)
      refine Sx.sv F (Sx.d_load1 (i := 0) (v := v) one_62 F H rfl rfl rfl rfl) (Sx.wanted_none rfl _) rfl (by decide) (fun A F => ?_)
      refine Sx.sv F (Sx.d_len (i := 0) el_62 F H rfl rfl rfl) (Sx.wanted_none rfl _) rfl (by decide) (fun A F => ?_)
      refine Sx.sv F (Sx.d_bin (v := .bool false) F rfl rfl rfl (Sx.i_ge (decide_eq_false (by omega)))) (Sx.wanted_none rfl _) rfl (by decide) (fun A F => ?_)
      refine Sx.nil ?_
      refine hK6 _ _ ?_
      refine Sx.condF F rfl ?_
      refine wp_skip ?_
      refine hK5 _ _ ?_
      refine Sx.seq (fun K7 hK7 => ?_)
      refine Sx.seq (fun K8 hK8 => ?_)
      refine Sx.plain ?_
      refine Sx.sv F (Sx.d_move F (Or.inl rfl) rfl) (Sx.wanted_none rfl _) rfl (by decide) (fun A F => ?_)
      refine Sx.sv F (Sx.d_move F (Or.inl rfl) rfl) (Sx.wanted_none rfl _) rfl (by decide) (fun A F => ?_)
      refine Sx.sv F (Sx.d_nil F rfl rfl) (Sx.wanted_none rfl _) rfl (by decide) (fun A F => ?_)
      refine Sx.sv F (Sx.d_faddr (v := .pointer (some ⟨tb, 1, none⟩)) F rfl rfl (fa_64_1 _ 0 _)) (Sx.wanted_none rfl _) rfl (by decide) (fun A F => ?_)
      refine Sx.sv F (Sx.d_load1 (i := 0) (v := .int .i64 sT.n) one_3 F H rfl rfl rfl rfl) (Sx.wanted_none rfl _) rfl (by decide) (fun A F => ?_)
      refine Sx.sv F (Sx.d_bin (v := .bool true) F rfl rfl rfl (Sx.i_lt (decide_eq_true hk))) (Sx.wanted_none rfl _) rfl (by decide) (fun A F => ?_)
      refine Sx.sv F (Sx.d_move F (Or.inl rfl) rfl) (Sx.wanted_none rfl _) rfl (by decide) (fun A F => ?_)
      refine Sx.su F (Sx.wanted_off rfl (Sx.guard_known (d := 19) (b := true) F rfl rfl) rfl) rfl (by decide) (fun A F => ?_)
      refine Sx.su F (Sx.wanted_off rfl (Sx.guard_known (d := 19) (b := true) F rfl rfl) rfl) rfl (by decide) (fun A F => ?_)
      refine Sx.sv F (Sx.d_pickT (v := .bool true) F rfl rfl rfl) (Sx.wanted_none rfl _) rfl (by decide) (fun A F => ?_)
      refine Sx.nil ?_
      refine hK8 _ _ ?_
      refine Sx.condT F rfl ?_
      refine Sx.seq (fun K9 hK9 => ?_)
      refine Sx.plain ?_
      refine Sx.sv F (Sx.d_move F (Or.inr rfl) rfl) (Sx.wanted_none rfl _) rfl (by decide) (fun A F => ?_)
      refine Sx.nil ?_
      refine hK9 _ _ ?_
      refine wp_ret ?_
      try dsimp only [Exit.then, Exit.inBlock, Exit.jump]
      refine Sx.ret1 F Try.results41 (Sx.res_tmp (v := .int .i64 1) F rfl) ?_
      rw [e.1, e.2]
      exact ⟨rfl, v, H⟩
    · by_cases hk2 : h ≥ 2147483647
      · have e := Tb.lay_arg x h16 (.inr hk2)
        refine Sx.seq (fun K10 hK10 => ?_)
        refine Sx.seq (fun K11 hK11 => ?_)
        refine Sx.plain ?_
        refine Sx.sv F (Sx.d_move F (Or.inl rfl) rfl) (Sx.wanted_none rfl _) rfl (by decide) (fun A F => ?_)
        refine Sx.sv F (Sx.d_nil F rfl rfl) (Sx.wanted_none rfl _) rfl (by decide) (fun A F => ?_)
        refine Sx.sv F (Sx.d_faddr (v := .pointer (some ⟨tb, 0, none⟩)) F rfl rfl (fa_64_0 _ 0 _)) (Sx.wanted_none rfl _) rfl (by decide) (fun A F => ?_)
        refine Sx.sv F (Sx.d_load1 (i := 0) (v := v) one_62 F H rfl rfl rfl rfl) (Sx.wanted_none rfl _) rfl (by decide) (fun A F => ?_)
        refine Sx.sv F (Sx.d_len (i := 0) el_62 F H rfl rfl rfl) (Sx.wanted_none rfl _) rfl (by decide) (fun A F => ?_)
        refine Sx.sv F (Sx.d_bin (v := .bool false) F rfl rfl rfl (Sx.i_ge (decide_eq_false (by omega)))) (Sx.wanted_none rfl _) rfl (by decide) (fun A F => ?_)
        refine Sx.nil ?_
        refine hK11 _ _ ?_
        refine Sx.condF F rfl ?_
        refine wp_skip ?_
        refine hK10 _ _ ?_
        refine Sx.seq (fun K12 hK12 => ?_)
        refine Sx.seq (fun K13 hK13 => ?_)
        refine Sx.plain ?_
        refine Sx.sv F (Sx.d_move F (Or.inl rfl) rfl) (Sx.wanted_none rfl _) rfl (by decide) (fun A F => ?_)
        refine Sx.sv F (Sx.d_move F (Or.inl rfl) rfl) (Sx.wanted_none rfl _) rfl (by decide) (fun A F => ?_)
        refine Sx.sv F (Sx.d_nil F rfl rfl) (Sx.wanted_none rfl _) rfl (by decide) (fun A F => ?_)
        refine Sx.sv F (Sx.d_faddr (v := .pointer (some ⟨tb, 1, none⟩)) F rfl rfl (fa_64_1 _ 0 _)) (Sx.wanted_none rfl _) rfl (by decide) (fun A F => ?_)
        refine Sx.sv F (Sx.d_load1 (i := 0) (v := .int .i64 sT.n) one_3 F H rfl rfl rfl rfl) (Sx.wanted_none rfl _) rfl (by decide) (fun A F => ?_)
        refine Sx.sv F (Sx.d_bin (v := .bool false) F rfl rfl rfl (Sx.i_lt (decide_eq_false hk))) (Sx.wanted_none rfl _) rfl (by decide) (fun A F => ?_)
        refine Sx.sv F (Sx.d_move F (Or.inl rfl) rfl) (Sx.wanted_none rfl _) rfl (by decide) (fun A F => ?_)
        refine Sx.sv F (Sx.d_move F (Or.inl rfl) rfl) (Sx.wanted_on rfl (Sx.guard_known (d := 19) (b := false) F rfl rfl) rfl) rfl (by decide) (fun A F => ?_)
        refine Sx.sv F (Sx.d_bin (v := .bool true) F rfl rfl rfl (Sx.i_ge (decide_eq_true hk2))) (Sx.wanted_on rfl (Sx.guard_known (d := 19) (b := false) F rfl rfl) rfl) rfl (by decide) (fun A F => ?_)
        refine Sx.sv F (Sx.d_pickF (v := .bool true) F rfl rfl rfl) (Sx.wanted_none rfl _) rfl (by decide) (fun A F => ?_)
        refine Sx.nil ?_
        refine hK13 _ _ ?_
        refine Sx.condT F rfl ?_
        refine Sx.seq (fun K14 hK14 => ?_)
        refine Sx.plain ?_
        refine Sx.sv F (Sx.d_move F (Or.inr rfl) rfl) (Sx.wanted_none rfl _) rfl (by decide) (fun A F => ?_)
        refine Sx.nil ?_
        refine hK14 _ _ ?_
        refine wp_ret ?_
        try dsimp only [Exit.then, Exit.inBlock, Exit.jump]
        refine Sx.ret1 F Try.results41 (Sx.res_tmp (v := .int .i64 1) F rfl) ?_
        rw [e.1, e.2]
        exact ⟨rfl, v, H⟩
      · have e := Tb.lay_good x h16 (show ¬ (h < sT.n ∨ 2147483647 ≤ h) by omega)
        have hn0 := hok.n0
        refine Sx.seq (fun K15 hK15 => ?_)
        refine Sx.seq (fun K16 hK16 => ?_)
        refine Sx.plain ?_
        refine Sx.sv F (Sx.d_move F (Or.inl rfl) rfl) (Sx.wanted_none rfl _) rfl (by decide) (fun A F => ?_)
        refine Sx.sv F (Sx.d_nil F rfl rfl) (Sx.wanted_none rfl _) rfl (by decide) (fun A F => ?_)
        refine Sx.sv F (Sx.d_faddr (v := .pointer (some ⟨tb, 0, none⟩)) F rfl rfl (fa_64_0 _ 0 _)) (Sx.wanted_none rfl _) rfl (by decide) (fun A F => ?_)
        refine Sx.sv F (Sx.d_load1 (i := 0) (v := v) one_62 F H rfl rfl rfl rfl) (Sx.wanted_none rfl _) rfl (by decide) (fun A F => ?_)
        refine Sx.sv F (Sx.d_len (i := 0) el_62 F H rfl rfl rfl) (Sx.wanted_none rfl _) rfl (by decide) (fun A F => ?_)
        refine Sx.sv F (Sx.d_bin (v := .bool false) F rfl rfl rfl (Sx.i_ge (decide_eq_false (by omega)))) (Sx.wanted_none rfl _) rfl (by decide) (fun A F => ?_)
        refine Sx.nil ?_
        refine hK16 _ _ ?_
        refine Sx.condF F rfl ?_
        refine wp_skip ?_
        refine hK15 _ _ ?_
        refine Sx.seq (fun K17 hK17 => ?_)
        refine Sx.seq (fun K18 hK18 => ?_)
        refine Sx.plain ?_
        refine Sx.sv F (Sx.d_move F (Or.inl rfl) rfl) (Sx.wanted_none rfl _) rfl (by decide) (fun A F => ?_)
        refine Sx.sv F (Sx.d_move F (Or.inl rfl) rfl) (Sx.wanted_none rfl _) rfl (by decide) (fun A F => ?_)
        refine Sx.sv F (Sx.d_nil F rfl rfl) (Sx.wanted_none rfl _) rfl (by decide) (fun A F => ?_)
        refine Sx.sv F (Sx.d_faddr (v := .pointer (some ⟨tb, 1, none⟩)) F rfl rfl (fa_64_1 _ 0 _)) (Sx.wanted_none rfl _) rfl (by decide) (fun A F => ?_)
        refine Sx.sv F (Sx.d_load1 (i := 0) (v := .int .i64 sT.n) one_3 F H rfl rfl rfl rfl) (Sx.wanted_none rfl _) rfl (by decide) (fun A F => ?_)
        refine Sx.sv F (Sx.d_bin (v := .bool false) F rfl rfl rfl (Sx.i_lt (decide_eq_false hk))) (Sx.wanted_none rfl _) rfl (by decide) (fun A F => ?_)
        refine Sx.sv F (Sx.d_move F (Or.inl rfl) rfl) (Sx.wanted_none rfl _) rfl (by decide) (fun A F => ?_)
        refine Sx.sv F (Sx.d_move F (Or.inl rfl) rfl) (Sx.wanted_on rfl (Sx.guard_known (d := 19) (b := false) F rfl rfl) rfl) rfl (by decide) (fun A F => ?_)
        refine Sx.sv F (Sx.d_bin (v := .bool false) F rfl rfl rfl (Sx.i_ge (decide_eq_false hk2))) (Sx.wanted_on rfl (Sx.guard_known (d := 19) (b := false) F rfl rfl) rfl) rfl (by decide) (fun A F => ?_)
        refine Sx.sv F (Sx.d_pickF (v := .bool false) F rfl rfl rfl) (Sx.wanted_none rfl _) rfl (by decide) (fun A F => ?_)
        refine Sx.nil ?_
        refine hK18 _ _ ?_
        refine Sx.condF F rfl ?_
        refine wp_skip ?_
        refine hK17 _ _ ?_
        refine Sx.seq (fun K19 hK19 => ?_)
        refine Sx.plain ?_
        refine Sx.sv F (Sx.d_move F (Or.inl rfl) rfl) (Sx.wanted_none rfl _) rfl (by decide) (fun A F => ?_)
        refine Sx.sr (mk := fun v => v) F (Sx.d_litR (qs := #[]) (cs := #[]) (E := 103) (z := 2) F H rfl rfl (fun _ => by kernel_rfl) rfl (by decide)) (Sx.wanted_none rfl _) rfl (by decide) (fun v1 A w F (H : Sx.Own w0 _ ((true, tb, [v, .int .i64 sT.n]) :: bs) (⟨true, v1, 103, 2, 0, []⟩ :: ⟨true, v, 103, 2, sT.l.length, (Tb.cells sT.l)⟩ :: rs)) => ?_)
        refine Sx.sv F (Sx.d_move F (Or.inl rfl) rfl) (Sx.wanted_none rfl _) rfl (by decide) (fun A F => ?_)
        refine Sx.sv F (Sx.d_nil F rfl rfl) (Sx.wanted_none rfl _) rfl (by decide) (fun A F => ?_)
        refine Sx.sv F (Sx.d_faddr (v := .pointer (some ⟨tb, 0, none⟩)) F rfl rfl (fa_64_0 _ 0 _)) (Sx.wanted_none rfl _) rfl (by decide) (fun A F => ?_)
        refine Sx.sv F (Sx.d_load1 (i := 0) (v := v) one_62 F H rfl rfl rfl rfl) (Sx.wanted_none rfl _) rfl (by decide) (fun A F => ?_)
        refine Sx.sr (mk := fun v => v) F (Sx.d_appendR (i := 0) (j := 1) el_62 F H rfl rfl rfl rfl rfl (Tb.ones _) rfl (by omega) (by decide)) (Sx.wanted_none rfl _) rfl (by decide) (fun v2 A w F (H : Sx.Own w0 _ ((true, tb, [v, .int .i64 sT.n]) :: bs) (⟨true, v2, 103, 2, (0 + sT.l.length), [] ++ (Tb.cells sT.l)⟩ :: ⟨true, v, 103, 2, sT.l.length, (Tb.cells sT.l)⟩ :: rs)) => ?_)
        refine Sx.sv F (Sx.d_move F (Or.inl rfl) rfl) (Sx.wanted_none rfl _) rfl (by decide) (fun A F => ?_)
        refine Sx.sv F (Sx.d_move F (Or.inl rfl) rfl) (Sx.wanted_none rfl _) rfl (by decide) (fun A F => ?_)
        refine Sx.sv F (Sx.d_build (qs := #[(0, .int .i64 h), (1, .int .u64 x.toNat)]) (v := .agg #[.int .i64 h, .int .u64 x.toNat]) F rfl rfl (by kernel_rfl)) (Sx.wanted_none rfl _) rfl (by decide) (fun A F => ?_)
        refine Sx.sg (mk := fun g => .slice (some ⟨g, 0, none⟩) 1 1) F (Sx.d_lit (qs := #[(0, .agg #[.int .i64 h, .int .u64 x.toNat])]) (cs := #[.int .i64 h, .int .u64 x.toNat]) (E := 103) F H rfl rfl (fun _ => by kernel_rfl)) (Sx.wanted_none rfl _) rfl (by decide) (fun g1 A w F (H : Sx.Own w0 _ ((true, g1, [.int .i64 h, .int .u64 x.toNat]) :: (true, tb, [v, .int .i64 sT.n]) :: bs) (⟨true, v2, 103, 2, (0 + sT.l.length), [] ++ (Tb.cells sT.l)⟩ :: ⟨true, v, 103, 2, sT.l.length, (Tb.cells sT.l)⟩ :: rs)) => ?_)
        refine Sx.sr (mk := fun v => v) F (Sx.d_append (i := 0) (j := 0) el_62 F H rfl rfl rfl rfl rfl rfl rfl rfl (by omega) (by decide)) (Sx.wanted_none rfl _) rfl (by decide) (fun v3 A w F (H : Sx.Own w0 _ ((true, g1, [.int .i64 h, .int .u64 x.toNat]) :: (true, tb, [v, .int .i64 sT.n]) :: bs) (⟨true, v3, 103, 2, ((0 + sT.l.length) + 1), [] ++ (Tb.cells sT.l) ++ [.int .i64 h, .int .u64 x.toNat]⟩ :: ⟨true, v, 103, 2, sT.l.length, (Tb.cells sT.l)⟩ :: rs)) => ?_)
        refine Sx.sv F (Sx.d_nil F rfl rfl) (Sx.wanted_none rfl _) rfl (by decide) (fun A F => ?_)
        refine Sx.sv F (Sx.d_faddr (v := .pointer (some ⟨tb, 0, none⟩)) F rfl rfl (fa_64_0 _ 0 _)) (Sx.wanted_none rfl _) rfl (by decide) (fun A F => ?_)
        obtain ⟨sad, scap, rfl⟩ := Sx.len_of (k := ((0 + sT.l.length) + 1)) (Sx.rowEq (v := v3) (H.row 0 _ rfl rfl) rfl rfl rfl rfl rfl)
        refine Sx.ss F (Sx.d_store (i := 1) (xs := [.slice sad ((0 + sT.l.length) + 1) scap]) (us := [.slice sad ((0 + sT.l.length) + 1) scap, .int .i64 sT.n]) sz_62 F H rfl rfl rfl rfl rfl rfl rfl (Nat.le_of_ble_eq_true rfl) rfl) (Sx.wanted_none rfl _) rfl (fun A w F (H : Sx.Own w0 _ ((true, g1, [.int .i64 h, .int .u64 x.toNat]) :: (true, tb, [.slice sad ((0 + sT.l.length) + 1) scap, .int .i64 sT.n]) :: bs) (⟨true, .slice sad ((0 + sT.l.length) + 1) scap, 103, 2, ((0 + sT.l.length) + 1), [] ++ (Tb.cells sT.l) ++ [.int .i64 h, .int .u64 x.toNat]⟩ :: ⟨true, v, 103, 2, sT.l.length, (Tb.cells sT.l)⟩ :: rs)) => ?_)
        refine Sx.nil ?_
        refine hK19 _ _ ?_
        refine Sx.seq (fun K20 hK20 => ?_)
        refine Sx.plain ?_
        refine Sx.sv F (Sx.d_move F (Or.inl rfl) rfl) (Sx.wanted_none rfl _) rfl (by decide) (fun A F => ?_)
        refine Sx.sv F (Sx.d_move F (Or.inl rfl) rfl) (Sx.wanted_none rfl _) rfl (by decide) (fun A F => ?_)
        refine Sx.sv F (Sx.d_bin (v := .int .i64 (h + 1)) F rfl rfl rfl (Sx.i_addS (Sx.in64 _ (by omega)))) (Sx.wanted_none rfl _) rfl (by decide) (fun A F => ?_)
        refine Sx.sv F (Sx.d_nil F rfl rfl) (Sx.wanted_none rfl _) rfl (by decide) (fun A F => ?_)
        refine Sx.sv F (Sx.d_faddr (v := .pointer (some ⟨tb, 1, none⟩)) F rfl rfl (fa_64_1 _ 0 _)) (Sx.wanted_none rfl _) rfl (by decide) (fun A F => ?_)
        refine Sx.ss F (Sx.d_store (i := 1) (xs := [.int .i64 (h + 1)]) (us := [.slice sad ((0 + sT.l.length) + 1) scap, .int .i64 (h + 1)]) sz_3 F H rfl rfl rfl rfl rfl rfl rfl (Nat.le_of_ble_eq_true rfl) rfl) (Sx.wanted_none rfl _) rfl (fun A w F (H : Sx.Own w0 _ ((true, g1, [.int .i64 h, .int .u64 x.toNat]) :: (true, tb, [.slice sad ((0 + sT.l.length) + 1) scap, .int .i64 (h + 1)]) :: bs) (⟨true, .slice sad ((0 + sT.l.length) + 1) scap, 103, 2, ((0 + sT.l.length) + 1), [] ++ (Tb.cells sT.l) ++ [.int .i64 h, .int .u64 x.toNat]⟩ :: ⟨true, v, 103, 2, sT.l.length, (Tb.cells sT.l)⟩ :: rs)) => ?_)
        refine Sx.nil ?_
        refine hK20 _ _ ?_
        refine Sx.seq (fun K21 hK21 => ?_)
        refine Sx.plain ?_
        refine Sx.sv F (Sx.d_move F (Or.inr rfl) rfl) (Sx.wanted_none rfl _) rfl (by decide) (fun A F => ?_)
        refine Sx.nil ?_
        refine hK21 _ _ ?_
        refine wp_ret ?_
        try dsimp only [Exit.then, Exit.inBlock, Exit.jump]
        refine Sx.ret1 F Try.results41 (Sx.res_tmp (v := .int .i64 0) F rfl) ?_
        rw [e.1, e.2]
        refine ⟨rfl, .slice sad (sT.l.length + 1) scap, ?_⟩
        dsimp only
        rw [List.length_append, List.length_singleton, ← Tb.cells_snoc]
        have H := H.tailB.dropR2
        rw [Nat.zero_add, List.nil_append] at H
        exact H
theorem rtlay_k (sT : Tb.S) (h : Int) (x : BitVec 64) (hh : -9223372036854775808 ≤ h ∧ h ≤ 9223372036854775807) (hok : sT.ok) (tb : Nat) (v : Value) (w0 w : World) {bs : List Sx.Bx} {rs : List Sx.Rx} (H : Sx.Own w0 w ((true, tb, [v, .int .i64 sT.n]) :: bs) (⟨true, v, 103, 2, sT.l.length, Tb.cells sT.l⟩ :: rs)) : Calls Try.prog 41 #[.pointer (some ⟨tb, 0, none⟩), .int .i64 h, .int .u64 x.toNat] w fun e w' => e = .returned (.int .i64 (Tb.S.laye sT h)) ∧ ∃ v', Sx.Own w0 w' ((true, tb, [v', .int .i64 (Tb.S.lay sT h x).n]) :: bs) (⟨true, v', 103, 2, (Tb.S.lay sT h x).l.length, Tb.cells (Tb.S.lay sT h x).l⟩ :: rs) := rtlay_c sT hok h x hh tb v w0 w bs rs H
set_option maxRecDepth 100000 in
theorem rtadd_c (sT : Tb.S) (hok : sT.ok) (x : BitVec 64) (tb : Nat) (v : Value) (w0 w : World) (bs : List Sx.Bx) (rs : List Sx.Rx)  (H : Sx.Own w0 w ((true, tb, [v, .int .i64 sT.n]) :: bs) (⟨true, v, 103, 2, sT.l.length, (Tb.cells sT.l)⟩ :: rs)) : Calls Try.prog 39 #[.pointer (some ⟨tb, 0, none⟩), .int .u64 x.toNat] w fun e w' => e = .returned (.tuple #[.int .i64 (Tb.S.addh sT), .int .i64 (Tb.S.adde sT)]) ∧ ∃ v', Sx.Own w0 w' ((true, tb, [v', .int .i64 (Tb.S.add sT x).n]) :: bs) (⟨true, v', 103, 2, (Tb.S.add sT x).l.length, Tb.cells (Tb.S.add sT x).l⟩ :: rs) := by
  refine Sx.enter (args := [.pointer (some ⟨tb, 0, none⟩), .int .u64 x.toNat]) Try.func39 rfl Try.ntmps39 (Nat.le_of_ble_eq_true rfl) (fun A F => ?_)
  refine Sx.seq (fun K1 hK1 => ?_)
  refine Sx.plain ?_
  refine Sx.sv F (Sx.d_move F (Or.inr rfl) rfl) (Sx.wanted_none rfl _) rfl (by decide) (fun A F => ?_)
  refine Sx.sv F (Sx.d_move F (Or.inr rfl) rfl) (Sx.wanted_none rfl _) rfl (by decide) (fun A F => ?_)
  refine Sx.nil ?_
  refine hK1 _ _ ?_
  have hfew := hok.few
  rcases Tb.add_cases hok x with ⟨h16, e1, e2, e3⟩ | ⟨h16, hn, e1, e2, e3⟩ | ⟨h16, hn, e1, e2, e3⟩
  · skip
    refine Sx.seq (fun K2 hK2 => ?_)
    refine Sx.seq (fun K3 hK3 => ?_)
    refine Sx.plain ?_
    refine Sx.sv F (Sx.d_move F (Or.inl rfl) rfl) (Sx.wanted_none rfl _) rfl (by decide) (fun A F => ?_)
    refine Sx.sv F (Sx.d_nil F rfl rfl) (Sx.wanted_none rfl _) rfl (by decide) (fun A F => ?_)
    refine Sx.sv F (Sx.d_faddr (v := .pointer (some ⟨tb, 0, none⟩)) F rfl rfl (fa_64_0 _ 0 _)) (Sx.wanted_none rfl _) rfl (by decide) (fun A F => ?_)
    refine Sx.sv F (Sx.d_load1 (i := 0) (v := v) one_62 F H rfl rfl rfl rfl) (Sx.wanted_none rfl _) rfl (by decide) (fun A F => ?_)
    refine Sx.sv F (Sx.d_len (i := 0) el_62 F H rfl rfl rfl) (Sx.wanted_none rfl _) rfl (by decide) (fun A F => ?_)
    refine Sx.sv F (Sx.d_bin (v := .bool true) F rfl rfl rfl (Sx.i_ge (decide_eq_true (by omega)))) (Sx.wanted_none rfl _) rfl (by decide) (fun A F => ?_)
    refine Sx.nil ?_
    refine hK3 _ _ ?_
    refine Sx.condT F rfl ?_
    refine Sx.seq (fun K4 hK4 => ?_)
    refine Sx.plain ?_
    refine Sx.sv F (Sx.d_move F (Or.inr rfl) rfl) (Sx.wanted_none rfl _) rfl (by decide) (fun A F => ?_)
    refine Sx.sv F (Sx.d_move F (Or.inr rfl) rfl) (Sx.wanted_none rfl _) rfl (by decide) (fun A F => ?_)
    refine Sx.nil ?_
    refine hK4 _ _ ?_
    refine wp_ret ?_
    try dsimp only [Exit.then, Exit.inBlock, Exit.jump]
    refine Sx.ret2 F Try.results39 (Sx.res_tmp (v := .int .i64 0) F rfl) (Sx.res_tmp (v := .int .i64 5) F rfl) ?_
    rw [e1, e2, e3]
    exact ⟨rfl, v, H⟩
  · skip
    refine Sx.seq (fun K5 hK5 => ?_)
    refine Sx.seq (fun K6 hK6 => ?_)
    refine Sx.plain ?_
    refine Sx.sv F (Sx.d_move F (Or.inl rfl) rfl) (Sx.wanted_none rfl _) rfl (by decide) (fun A F => ?_)
    refine Sx.sv F (Sx.d_nil F rfl rfl) (Sx.wanted_none rfl _) rfl (by decide) (fun A F => ?_)
    refine Sx.sv F (Sx.d_faddr (v := .pointer (some ⟨tb, 0, none⟩)) F rfl rfl (fa_64_0 _ 0 _)) (Sx.wanted_none rfl _) rfl (by decide) (fun A F => ?_)
    refine Sx.sv F (Sx.d_load1 (i := 0) (v := v) one_62 F H rfl rfl rfl rfl) (Sx.wanted_none rfl _) rfl (by decide) (fun A F => ?_)
    refine Sx.sv F (Sx.d_len (i := 0) el_62 F H rfl rfl rfl) (Sx.wanted_none rfl _) rfl (by decide) (fun A F => ?_)
    refine Sx.sv F (Sx.d_bin (v := .bool false) F rfl rfl rfl (Sx.i_ge (decide_eq_false (by omega)))) (Sx.wanted_none rfl _) rfl (by decide) (fun A F => ?_)
    refine Sx.nil ?_
    refine hK6 _ _ ?_
    refine Sx.condF F rfl ?_
    refine wp_skip ?_
    refine hK5 _ _ ?_
    refine Sx.seq (fun K7 hK7 => ?_)
    refine Sx.seq (fun K8 hK8 => ?_)
    refine Sx.plain ?_
    refine Sx.sv F (Sx.d_move F (Or.inl rfl) rfl) (Sx.wanted_none rfl _) rfl (by decide) (fun A F => ?_)
    refine Sx.sv F (Sx.d_nil F rfl rfl) (Sx.wanted_none rfl _) rfl (by decide) (fun A F => ?_)
    refine Sx.sv F (Sx.d_faddr (v := .pointer (some ⟨tb, 1, none⟩)) F rfl rfl (fa_64_1 _ 0 _)) (Sx.wanted_none rfl _) rfl (by decide) (fun A F => ?_)
    refine Sx.sv F (Sx.d_load1 (i := 0) (v := .int .i64 sT.n) one_3 F H rfl rfl rfl rfl) (Sx.wanted_none rfl _) rfl (by decide) (fun A F => ?_)
    refine Sx.sv F (Sx.d_bin (v := .bool true) F rfl rfl rfl (Sx.i_ge (decide_eq_true (by omega)))) (Sx.wanted_none rfl _) rfl (by decide) (fun A F => ?_)
    refine Sx.nil ?_
    refine hK8 _ _ ?_
    refine Sx.condT F rfl ?_
    refine Sx.seq (fun K9 hK9 => ?_)
    refine Sx.plain ?_
    refine Sx.sv F (Sx.d_move F (Or.inr rfl) rfl) (Sx.wanted_none rfl _) rfl (by decide) (fun A F => ?_)
    refine Sx.sv F (Sx.d_move F (Or.inr rfl) rfl) (Sx.wanted_none rfl _) rfl (by decide) (fun A F => ?_)
    refine Sx.nil ?_
    refine hK9 _ _ ?_
    refine wp_ret ?_
    try dsimp only [Exit.then, Exit.inBlock, Exit.jump]
    refine Sx.ret2 F Try.results39 (Sx.res_tmp (v := .int .i64 0) F rfl) (Sx.res_tmp (v := .int .i64 10) F rfl) ?_
    rw [e1, e2, e3]
    exact ⟨rfl, v, H⟩
  · skip
    refine Sx.seq (fun K10 hK10 => ?_)
    refine Sx.seq (fun K11 hK11 => ?_)
    refine Sx.plain ?_
    refine Sx.sv F (Sx.d_move F (Or.inl rfl) rfl) (Sx.wanted_none rfl _) rfl (by decide) (fun A F => ?_)
    refine Sx.sv F (Sx.d_nil F rfl rfl) (Sx.wanted_none rfl _) rfl (by decide) (fun A F => ?_)
    refine Sx.sv F (Sx.d_faddr (v := .pointer (some ⟨tb, 0, none⟩)) F rfl rfl (fa_64_0 _ 0 _)) (Sx.wanted_none rfl _) rfl (by decide) (fun A F => ?_)
    refine Sx.sv F (Sx.d_load1 (i := 0) (v := v) one_62 F H rfl rfl rfl rfl) (Sx.wanted_none rfl _) rfl (by decide) (fun A F => ?_)
    refine Sx.sv F (Sx.d_len (i := 0) el_62 F H rfl rfl rfl) (Sx.wanted_none rfl _) rfl (by decide) (fun A F => ?_)
    refine Sx.sv F (Sx.d_bin (v := .bool false) F rfl rfl rfl (Sx.i_ge (decide_eq_false (by omega)))) (Sx.wanted_none rfl _) rfl (by decide) (fun A F => ?_)
    refine Sx.nil ?_
    refine hK11 _ _ ?_
    refine Sx.condF F rfl ?_
    refine wp_skip ?_
    refine hK10 _ _ ?_
    refine Sx.seq (fun K12 hK12 => ?_)
    refine Sx.seq (fun K13 hK13 => ?_)
    refine Sx.plain ?_
    refine Sx.sv F (Sx.d_move F (Or.inl rfl) rfl) (Sx.wanted_none rfl _) rfl (by decide) (fun A F => ?_)
    refine Sx.sv F (Sx.d_nil F rfl rfl) (Sx.wanted_none rfl _) rfl (by decide) (fun A F => ?_)
    refine Sx.sv F (Sx.d_faddr (v := .pointer (some ⟨tb, 1, none⟩)) F rfl rfl (fa_64_1 _ 0 _)) (Sx.wanted_none rfl _) rfl (by decide) (fun A F => ?_)
    refine Sx.sv F (Sx.d_load1 (i := 0) (v := .int .i64 sT.n) one_3 F H rfl rfl rfl rfl) (Sx.wanted_none rfl _) rfl (by decide) (fun A F => ?_)
    refine Sx.sv F (Sx.d_bin (v := .bool false) F rfl rfl rfl (Sx.i_ge (decide_eq_false (by omega)))) (Sx.wanted_none rfl _) rfl (by decide) (fun A F => ?_)
    refine Sx.nil ?_
    refine hK13 _ _ ?_
    refine Sx.condF F rfl ?_
    refine wp_skip ?_
    refine hK12 _ _ ?_
    refine Sx.seq (fun K14 hK14 => ?_)
    refine Sx.plain ?_
    refine Sx.sv F (Sx.d_move F (Or.inl rfl) rfl) (Sx.wanted_none rfl _) rfl (by decide) (fun A F => ?_)
    refine Sx.sv F (Sx.d_nil F rfl rfl) (Sx.wanted_none rfl _) rfl (by decide) (fun A F => ?_)
    refine Sx.sv F (Sx.d_faddr (v := .pointer (some ⟨tb, 1, none⟩)) F rfl rfl (fa_64_1 _ 0 _)) (Sx.wanted_none rfl _) rfl (by decide) (fun A F => ?_)
    refine Sx.sv F (Sx.d_load1 (i := 0) (v := .int .i64 sT.n) one_3 F H rfl rfl rfl rfl) (Sx.wanted_none rfl _) rfl (by decide) (fun A F => ?_)
    refine Sx.sv F (Sx.d_move F (Or.inr rfl) rfl) (Sx.wanted_none rfl _) rfl (by decide) (fun A F => ?_)
    refine Sx.nil ?_
    refine hK14 _ _ ?_
    refine Sx.seq (fun K15 hK15 => ?_)
    refine Sx.plain ?_
    refine Sx.sv F (Sx.d_move F (Or.inl rfl) rfl) (Sx.wanted_none rfl _) rfl (by decide) (fun A F => ?_)
    refine Sx.sv F (Sx.d_move F (Or.inl rfl) rfl) (Sx.wanted_none rfl _) rfl (by decide) (fun A F => ?_)
    refine Sx.sv F (Sx.d_move F (Or.inl rfl) rfl) (Sx.wanted_none rfl _) rfl (by decide) (fun A F => ?_)
    refine Sx.so (x := .int .i64 (Tb.S.laye sT sT.n)) F (Sx.d_callO (vs := [.pointer (some ⟨tb, 0, none⟩), .int .i64 sT.n, .int .u64 x.toNat]) if_41 F rfl rfl (Sx.oo (rtlay_k sT sT.n x (by have := hok.n0; have := hok.n1; omega) hok tb v _ _ H))) (Sx.wanted_none rfl _) rfl (by decide) (fun v1 A w F (H : Sx.Own w0 _ ((true, tb, [v1, .int .i64 ((Tb.S.lay sT sT.n x).n)]) :: bs) (⟨true, v1, 103, 2, (Tb.S.lay sT sT.n x).l.length, (Tb.cells (Tb.S.lay sT sT.n x).l)⟩ :: rs)) => ?_)
    refine Sx.nil ?_
    refine hK15 _ _ ?_
    refine Sx.seq (fun K16 hK16 => ?_)
    refine Sx.plain ?_
    refine Sx.sv F (Sx.d_move F (Or.inl rfl) rfl) (Sx.wanted_none rfl _) rfl (by decide) (fun A F => ?_)
    refine Sx.sv F (Sx.d_move F (Or.inr rfl) rfl) (Sx.wanted_none rfl _) rfl (by decide) (fun A F => ?_)
    refine Sx.sv F (Sx.d_move F (Or.inr rfl) rfl) (Sx.wanted_none rfl _) rfl (by decide) (fun A F => ?_)
    refine Sx.nil ?_
    refine hK16 _ _ ?_
    refine wp_ret ?_
    try dsimp only [Exit.then, Exit.inBlock, Exit.jump]
    refine Sx.ret2 F Try.results39 (Sx.res_tmp (v := .int .i64 sT.n) F rfl) (Sx.res_tmp (v := .int .i64 0) F rfl) ?_
    rw [e1, e2]
    exact ⟨rfl, v1, H⟩
theorem rtadd_k (sT : Tb.S) (x : BitVec 64) (hok : sT.ok) (tb : Nat) (v : Value) (w0 w : World) {bs : List Sx.Bx} {rs : List Sx.Rx} (H : Sx.Own w0 w ((true, tb, [v, .int .i64 sT.n]) :: bs) (⟨true, v, 103, 2, sT.l.length, Tb.cells sT.l⟩ :: rs)) : Calls Try.prog 39 #[.pointer (some ⟨tb, 0, none⟩), .int .u64 x.toNat] w fun e w' => e = .returned (.tuple #[.int .i64 (Tb.S.addh sT), .int .i64 (Tb.S.adde sT)]) ∧ ∃ v', Sx.Own w0 w' ((true, tb, [v', .int .i64 (Tb.S.add sT x).n]) :: bs) (⟨true, v', 103, 2, (Tb.S.add sT x).l.length, Tb.cells (Tb.S.add sT x).l⟩ :: rs) := rtadd_c sT hok x tb v w0 w bs rs H
set_option maxRecDepth 100000 in
theorem rtgoes_c (sT : Tb.S) (hok : sT.ok) (m : Int) (tb : Nat) (v : Value) (w0 w : World) (bs : List Sx.Bx) (rs : List Sx.Rx)  (H : Sx.Own w0 w ((true, tb, [v, .int .i64 sT.n]) :: bs) (⟨true, v, 103, 2, sT.l.length, (Tb.cells sT.l)⟩ :: rs)) : Calls Try.prog 42 #[.pointer (some ⟨tb, 0, none⟩), .int .i64 m] w fun e w' => e = .returned (.int .i64 (Tb.S.goese sT m)) ∧ ∃ v', Sx.Own w0 w' ((true, tb, [v', .int .i64 (Tb.S.goes sT m).n]) :: bs) (⟨true, v', 103, 2, (Tb.S.goes sT m).l.length, Tb.cells (Tb.S.goes sT m).l⟩ :: rs) := by
  refine Sx.enter (args := [.pointer (some ⟨tb, 0, none⟩), .int .i64 m]) Try.func42 rfl Try.ntmps42 (Nat.le_of_ble_eq_true rfl) (fun A F => ?_)
  refine Sx.seq (fun K1 hK1 => ?_)
  refine Sx.plain ?_
  refine Sx.sv F (Sx.d_move F (Or.inr rfl) rfl) (Sx.wanted_none rfl _) rfl (by decide) (fun A F => ?_)
  refine Sx.nil ?_
  refine hK1 _ _ ?_
  by_cases hk : m < sT.n
  · have e : sT.goese m = 1 := if_pos (.inl hk)
    refine Sx.seq (fun K2 hK2 => ?_)
    refine Sx.seq (fun K3 hK3 => ?_)
    refine Sx.plain ?_
    refine Sx.sv F (Sx.d_move F (Or.inl rfl) rfl) (Sx.wanted_none rfl _) rfl (by decide) (fun A F => ?_)
    refine Sx.sv F (Sx.d_move F (Or.inl rfl) rfl) (Sx.wanted_none rfl _) rfl (by decide) (fun A F => ?_)
    refine Sx.sv F (Sx.d_nil F rfl rfl) (Sx.wanted_none rfl _) rfl (by decide) (fun A F => ?_)
    refine Sx.sv F (Sx.d_faddr (v := .pointer (some ⟨tb, 1, none⟩)) F rfl rfl (fa_64_1 _ 0 _)) (Sx.wanted_none rfl _) rfl (by decide) (fun A F => ?_)
    refine Sx.sv F (Sx.d_load1 (i := 0) (v := .int .i64 sT.n) one_3 F H rfl rfl rfl rfl) (Sx.wanted_none rfl _) rfl (by decide) (fun A F => ?_)
    refine Sx.sv F (Sx.d_bin (v := .bool true) F rfl rfl rfl (Sx.i_lt (decide_eq_true hk))) (Sx.wanted_none rfl _) rfl (by decide) (fun A F => ?_)
    refine Sx.sv F (Sx.d_move F (Or.inl rfl) rfl) (Sx.wanted_none rfl _) rfl (by decide) (fun A F => ?_)
    refine Sx.su F (Sx.wanted_off rfl (Sx.guard_known (d := 11) (b := true) F rfl rfl) rfl) rfl (by decide) (fun A F => ?_)
    refine Sx.su F (Sx.wanted_off rfl (Sx.guard_known (d := 11) (b := true) F rfl rfl) rfl) rfl (by decide) (fun A F => ?_)
    refine Sx.sv F (Sx.d_pickT (v := .bool true) F rfl rfl rfl) (Sx.wanted_none rfl _) rfl (by decide) (fun A F => ?_)
    refine Sx.nil ?_
    refine hK3 _ _ ?_
    refine Sx.condT F rfl ?_
    refine Sx.seq (fun K4 hK4 => ?_)
    refine Sx.plain ?_
    refine Sx.sv F (Sx.d_move F (Or.inr rfl) rfl) (Sx.wanted_none rfl _) rfl (by decide) (fun A F => ?_)
    refine Sx.nil ?_
    refine hK4 _ _ ?_
    refine wp_ret ?_
    try dsimp only [Exit.then, Exit.inBlock, Exit.jump]
    refine Sx.ret1 F Try.results42 (Sx.res_tmp (v := .int .i64 1) F rfl) ?_
    unfold Tb.S.goes
    rw [e, if_neg (by decide)]
    exact ⟨rfl, v, H⟩
  · by_cases hk2 : m > 2147483647
    · have e : sT.goese m = 1 := if_pos (.inr hk2)
      refine Sx.seq (fun K5 hK5 => ?_)
      refine Sx.seq (fun K6 hK6 => ?_)
      refine Sx.plain ?_
      refine Sx.sv F (Sx.d_move F (Or.inl rfl) rfl) (Sx.wanted_none rfl _) rfl (by decide) (fun A F => ?_)
      refine Sx.sv F (Sx.d_move F (Or.inl rfl) rfl) (Sx.wanted_none rfl _) rfl (by decide) (fun A F => ?_)
      refine Sx.sv F (Sx.d_nil F rfl rfl) (Sx.wanted_none rfl _) rfl (by decide) (fun A F => ?_)
      refine Sx.sv F (Sx.d_faddr (v := .pointer (some ⟨tb, 1, none⟩)) F rfl rfl (fa_64_1 _ 0 _)) (Sx.wanted_none rfl _) rfl (by decide) (fun A F => ?_)
      refine Sx.sv F (Sx.d_load1 (i := 0) (v := .int .i64 sT.n) one_3 F H rfl rfl rfl rfl) (Sx.wanted_none rfl _) rfl (by decide) (fun A F => ?_)
      refine Sx.sv F (Sx.d_bin (v := .bool false) F rfl rfl rfl (Sx.i_lt (decide_eq_false hk))) (Sx.wanted_none rfl _) rfl (by decide) (fun A F => ?_)
      refine Sx.sv F (Sx.d_move F (Or.inl rfl) rfl) (Sx.wanted_none rfl _) rfl (by decide) (fun A F => ?_)
      refine Sx.sv F (Sx.d_move F (Or.inl rfl) rfl) (Sx.wanted_on rfl (Sx.guard_known (d := 11) (b := false) F rfl rfl) rfl) rfl (by decide) (fun A F => ?_)
      refine Sx.sv F (Sx.d_bin (v := .bool true) F rfl rfl rfl (Sx.i_gt (decide_eq_true hk2))) (Sx.wanted_on rfl (Sx.guard_known (d := 11) (b := false) F rfl rfl) rfl) rfl (by decide) (fun A F => ?_)
      refine Sx.sv F (Sx.d_pickF (v := .bool true) F rfl rfl rfl) (Sx.wanted_none rfl _) rfl (by decide) (fun A F => ?_)
      refine Sx.nil ?_
      refine hK6 _ _ ?_
      refine Sx.condT F rfl ?_
      refine Sx.seq (fun K7 hK7 => ?_)
      refine Sx.plain ?_
      refine Sx.sv F (Sx.d_move F (Or.inr rfl) rfl) (Sx.wanted_none rfl _) rfl (by decide) (fun A F => ?_)
      refine Sx.nil ?_
      refine hK7 _ _ ?_
      refine wp_ret ?_
      try dsimp only [Exit.then, Exit.inBlock, Exit.jump]
      refine Sx.ret1 F Try.results42 (Sx.res_tmp (v := .int .i64 1) F rfl) ?_
      unfold Tb.S.goes
      rw [e, if_neg (by decide)]
      exact ⟨rfl, v, H⟩
    · have e : sT.goese m = 0 := if_neg (show ¬ (m < sT.n ∨ 2147483647 < m) by omega)
      refine Sx.seq (fun K8 hK8 => ?_)
      refine Sx.seq (fun K9 hK9 => ?_)
      refine Sx.plain ?_
      refine Sx.sv F (Sx.d_move F (Or.inl rfl) rfl) (Sx.wanted_none rfl _) rfl (by decide) (fun A F => ?_)
      refine Sx.sv F (Sx.d_move F (Or.inl rfl) rfl) (Sx.wanted_none rfl _) rfl (by decide) (fun A F => ?_)
      refine Sx.sv F (Sx.d_nil F rfl rfl) (Sx.wanted_none rfl _) rfl (by decide) (fun A F => ?_)
      refine Sx.sv F (Sx.d_faddr (v := .pointer (some ⟨tb, 1, none⟩)) F rfl rfl (fa_64_1 _ 0 _)) (Sx.wanted_none rfl _) rfl (by decide) (fun A F => ?_)
      refine Sx.sv F (Sx.d_load1 (i := 0) (v := .int .i64 sT.n) one_3 F H rfl rfl rfl rfl) (Sx.wanted_none rfl _) rfl (by decide) (fun A F => ?_)
      refine Sx.sv F (Sx.d_bin (v := .bool false) F rfl rfl rfl (Sx.i_lt (decide_eq_false hk))) (Sx.wanted_none rfl _) rfl (by decide) (fun A F => ?_)
      refine Sx.sv F (Sx.d_move F (Or.inl rfl) rfl) (Sx.wanted_none rfl _) rfl (by decide) (fun A F => ?_)
      refine Sx.sv F (Sx.d_move F (Or.inl rfl) rfl) (Sx.wanted_on rfl (Sx.guard_known (d := 11) (b := false) F rfl rfl) rfl) rfl (by decide) (fun A F => ?_)
      refine Sx.sv F (Sx.d_bin (v := .bool false) F rfl rfl rfl (Sx.i_gt (decide_eq_false hk2))) (Sx.wanted_on rfl (Sx.guard_known (d := 11) (b := false) F rfl rfl) rfl) rfl (by decide) (fun A F => ?_)
      refine Sx.sv F (Sx.d_pickF (v := .bool false) F rfl rfl rfl) (Sx.wanted_none rfl _) rfl (by decide) (fun A F => ?_)
      refine Sx.nil ?_
      refine hK9 _ _ ?_
      refine Sx.condF F rfl ?_
      refine wp_skip ?_
      refine hK8 _ _ ?_
      refine Sx.seq (fun K10 hK10 => ?_)
      refine Sx.plain ?_
      refine Sx.sv F (Sx.d_move F (Or.inl rfl) rfl) (Sx.wanted_none rfl _) rfl (by decide) (fun A F => ?_)
      refine Sx.sv F (Sx.d_move F (Or.inl rfl) rfl) (Sx.wanted_none rfl _) rfl (by decide) (fun A F => ?_)
      refine Sx.sv F (Sx.d_nil F rfl rfl) (Sx.wanted_none rfl _) rfl (by decide) (fun A F => ?_)
      refine Sx.sv F (Sx.d_faddr (v := .pointer (some ⟨tb, 1, none⟩)) F rfl rfl (fa_64_1 _ 0 _)) (Sx.wanted_none rfl _) rfl (by decide) (fun A F => ?_)
      refine Sx.ss F (Sx.d_store (i := 0) (xs := [.int .i64 m]) (us := [v, .int .i64 m]) sz_3 F H rfl rfl rfl rfl rfl rfl rfl (Nat.le_of_ble_eq_true rfl) rfl) (Sx.wanted_none rfl _) rfl (fun A w F (H : Sx.Own w0 _ ((true, tb, [v, .int .i64 m]) :: bs) (⟨true, v, 103, 2, sT.l.length, (Tb.cells sT.l)⟩ :: rs)) => ?_)
      refine Sx.nil ?_
      refine hK10 _ _ ?_
      refine Sx.seq (fun K11 hK11 => ?_)
      refine Sx.plain ?_
      refine Sx.sv F (Sx.d_move F (Or.inr rfl) rfl) (Sx.wanted_none rfl _) rfl (by decide) (fun A F => ?_)
      refine Sx.nil ?_
      refine hK11 _ _ ?_
      refine wp_ret ?_
      try dsimp only [Exit.then, Exit.inBlock, Exit.jump]
      refine Sx.ret1 F Try.results42 (Sx.res_tmp (v := .int .i64 0) F rfl) ?_
      unfold Tb.S.goes
      rw [e, if_pos rfl]
      exact ⟨rfl, v, H⟩
theorem rtgoes_k (sT : Tb.S) (m : Int) (hok : sT.ok) (tb : Nat) (v : Value) (w0 w : World) {bs : List Sx.Bx} {rs : List Sx.Rx} (H : Sx.Own w0 w ((true, tb, [v, .int .i64 sT.n]) :: bs) (⟨true, v, 103, 2, sT.l.length, Tb.cells sT.l⟩ :: rs)) : Calls Try.prog 42 #[.pointer (some ⟨tb, 0, none⟩), .int .i64 m] w fun e w' => e = .returned (.int .i64 (Tb.S.goese sT m)) ∧ ∃ v', Sx.Own w0 w' ((true, tb, [v', .int .i64 (Tb.S.goes sT m).n]) :: bs) (⟨true, v', 103, 2, (Tb.S.goes sT m).l.length, Tb.cells (Tb.S.goes sT m).l⟩ :: rs) := rtgoes_c sT hok m tb v w0 w bs rs H
set_option maxRecDepth 100000 in
theorem rtdrop_c (sT : Tb.S) (hok : sT.ok) (h : Int) (tb : Nat) (v : Value) (w0 w : World) (bs : List Sx.Bx) (rs : List Sx.Rx)  (H : Sx.Own w0 w ((true, tb, [v, .int .i64 sT.n]) :: bs) (⟨true, v, 103, 2, sT.l.length, (Tb.cells sT.l)⟩ :: rs)) : Calls Try.prog 40 #[.pointer (some ⟨tb, 0, none⟩), .int .i64 h] w fun e w' => e = .returned (.bool (Tb.S.has sT h)) ∧ ∃ v', Sx.Own w0 w' ((true, tb, [v', .int .i64 (Tb.S.drop sT h).n]) :: bs) (⟨true, v', 103, 2, (Tb.S.drop sT h).l.length, Tb.cells (Tb.S.drop sT h).l⟩ :: rs) := by
  refine Sx.enter (args := [.pointer (some ⟨tb, 0, none⟩), .int .i64 h]) Try.func40 rfl Try.ntmps40 (Nat.le_of_ble_eq_true rfl) (fun A F => ?_)
  refine Sx.seq (fun K1 hK1 => ?_)
  refine Sx.plain ?_
  refine Sx.sv F (Sx.d_move F (Or.inr rfl) rfl) (Sx.wanted_none rfl _) rfl (by decide) (fun A F => ?_)
  refine Sx.nil ?_
  refine hK1 _ _ ?_
  refine Sx.seq (fun K2 hK2 => ?_)
  refine Sx.plain ?_
  refine Sx.sr (mk := fun v => v) F (Sx.d_litR (qs := #[]) (cs := #[]) (E := 103) (z := 2) F H rfl rfl (fun _ => by kernel_rfl) rfl (by decide)) (Sx.wanted_none rfl _) rfl (by decide) (fun v1 A w F (H : Sx.Own w0 _ ((true, tb, [v, .int .i64 sT.n]) :: bs) (⟨true, v1, 103, 2, 0, []⟩ :: ⟨true, v, 103, 2, sT.l.length, (Tb.cells sT.l)⟩ :: rs)) => ?_)
  refine Sx.sv F (Sx.d_move F (Or.inr rfl) rfl) (Sx.wanted_none rfl _) rfl (by decide) (fun A F => ?_)
  refine Sx.nil ?_
  refine hK2 _ _ ?_
  refine Sx.seq (fun K3 hK3 => ?_)
  refine Sx.seq (fun K4 hK4 => ?_)
  refine Sx.plain ?_
  refine Sx.sv F (Sx.d_move F (Or.inr rfl) rfl) (Sx.wanted_none rfl _) rfl (by decide) (fun A F => ?_)
  refine Sx.nil ?_
  refine hK4 _ _ ?_
  refine wp_block ?_
  refine Sx.loop (fun q A w => ∃ (i : Nat) (u : Value), q = sT.l.length - i ∧ i ≤ sT.l.length ∧ Sx.Fr 51 A [(0, .pointer (some ⟨tb, 0, none⟩)), (1, .int .i64 h), (5, u), (6, .int .i64 i)] ∧ Sx.Own w0 w ((true, tb, [v, .int .i64 sT.n]) :: bs) (⟨true, u, 103, 2, (Tb.kept h sT.l i).length, (Tb.cells (Tb.kept h sT.l i))⟩ :: ⟨true, v, 103, 2, sT.l.length, (Tb.cells sT.l)⟩ :: rs)) sT.l.length ⟨0, v1, rfl, Nat.zero_le _, F.to ⟨rfl, rfl, rfl, rfl, trivial⟩, H⟩ ?_
  rintro q A w ⟨i, u, rfl, hi, F, H⟩
  have hfew := hok.few
  have hkl := Tb.kept_len h sT.l i
  by_cases hlt : i < sT.l.length
  · obtain ⟨r, hr⟩ : ∃ r, sT.l[i]? = some r := ⟨_, List.getElem?_eq_getElem hlt⟩
    have Fcur := F
    have Hcur := H
    obtain ⟨lg, lc, rfl, hc1', hc2'⟩ := Hcur.open (i := 1) rfl (by omega)
    have F := Fcur
    have H := Hcur
    by_cases he : r.1 = h
    · have hkk := Tb.kept_no hr he
      refine Sx.seq (fun K5 hK5 => ?_)
      refine Sx.seq (fun K6 hK6 => ?_)
      refine Sx.plain ?_
      refine Sx.sv F (Sx.d_move F (Or.inl rfl) rfl) (Sx.wanted_none rfl _) rfl (by decide) (fun A F => ?_)
      refine Sx.sv F (Sx.d_move F (Or.inl rfl) rfl) (Sx.wanted_none rfl _) rfl (by decide) (fun A F => ?_)
      refine Sx.sv F (Sx.d_nil F rfl rfl) (Sx.wanted_none rfl _) rfl (by decide) (fun A F => ?_)
      refine Sx.sv F (Sx.d_faddr (v := .pointer (some ⟨tb, 0, none⟩)) F rfl rfl (fa_64_0 _ 0 _)) (Sx.wanted_none rfl _) rfl (by decide) (fun A F => ?_)
      refine Sx.sv F (Sx.d_load1 (i := 0) (v := .slice (some ⟨lg, 0, none⟩) sT.l.length lc) one_62 F H rfl rfl rfl rfl) (Sx.wanted_none rfl _) rfl (by decide) (fun A F => ?_)
      refine Sx.sv F (Sx.d_len (i := 1) el_62 F H rfl rfl rfl) (Sx.wanted_none rfl _) rfl (by decide) (fun A F => ?_)
      refine Sx.sv F (Sx.d_bin (v := .bool true) F rfl rfl rfl (Sx.i_lt (decide_eq_true (by omega)))) (Sx.wanted_none rfl _) rfl (by decide) (fun A F => ?_)
      refine Sx.nil ?_
      refine hK6 _ _ ?_
      refine Sx.condT F rfl ?_
      refine wp_skip ?_
      refine hK5 _ _ ?_
      refine Sx.seq (fun K7 hK7 => ?_)
      refine wp_block ?_
      refine Sx.seq (fun K8 hK8 => ?_)
      refine Sx.plain ?_
      refine Sx.sv F (Sx.d_move F (Or.inl rfl) rfl) (Sx.wanted_none rfl _) rfl (by decide) (fun A F => ?_)
      refine Sx.sv F (Sx.d_nil F rfl rfl) (Sx.wanted_none rfl _) rfl (by decide) (fun A F => ?_)
      refine Sx.sv F (Sx.d_faddr (v := .pointer (some ⟨tb, 0, none⟩)) F rfl rfl (fa_64_0 _ 0 _)) (Sx.wanted_none rfl _) rfl (by decide) (fun A F => ?_)
      refine Sx.sv F (Sx.d_load1 (i := 0) (v := .slice (some ⟨lg, 0, none⟩) sT.l.length lc) one_62 F H rfl rfl rfl rfl) (Sx.wanted_none rfl _) rfl (by decide) (fun A F => ?_)
      refine Sx.sv F (Sx.d_move F (Or.inl rfl) rfl) (Sx.wanted_none rfl _) rfl (by decide) (fun A F => ?_)
      refine Sx.sv F (Sx.d_ixRZ (k := i) (z := 2) el_62 F rfl rfl rfl (rfl) (by omega)) (Sx.wanted_none rfl _) rfl (by decide) (fun A F => ?_)
      refine Sx.sv F (Sx.d_faddr (v := .pointer (some ⟨lg, i * 2, none⟩)) F rfl rfl (fa_103_0 _ (i * 2) _)) (Sx.wanted_none rfl _) rfl (by decide) (fun A F => ?_)
      refine Sx.sv F (Sx.d_loadRZ (i := 1) (k := i * 2) (v := .int .i64 r.1) one_3 F H rfl rfl rfl ((Tb.cells_at _ i r hr).1)) (Sx.wanted_none rfl _) rfl (by decide) (fun A F => ?_)
      refine Sx.sv F (Sx.d_move F (Or.inl rfl) rfl) (Sx.wanted_none rfl _) rfl (by decide) (fun A F => ?_)
      refine Sx.sv F (Sx.d_bin (v := .bool false) F rfl rfl rfl (Sx.i_ne (by rw [he]; simp))) (Sx.wanted_none rfl _) rfl (by decide) (fun A F => ?_)
      refine Sx.nil ?_
      refine hK8 _ _ ?_
      refine Sx.condF F rfl ?_
      refine wp_skip ?_
      refine hK7 _ _ ?_
      refine Sx.plain ?_
      refine Sx.sv F (Sx.d_move F (Or.inl rfl) rfl) (Sx.wanted_none rfl _) rfl (by decide) (fun A F => ?_)
      refine Sx.sv F (Sx.d_bin (v := .int .i64 (i + 1 : Nat)) F rfl rfl rfl (Sx.i_addN rfl (Sx.in_i64 _ (by omega)))) (Sx.wanted_none rfl _) rfl (by decide) (fun A F => ?_)
      refine Sx.sv F (Sx.d_move F (Or.inr rfl) rfl) (Sx.wanted_none rfl _) rfl (by decide) (fun A F => ?_)
      refine Sx.nil ?_
      try dsimp only [Exit.then]
      exact ⟨sT.l.length - (i + 1), by omega, i + 1, u, rfl, by omega, F.to ⟨rfl, rfl, rfl, rfl, trivial⟩, by rw [hkk]; exact H⟩
    · have hkk := Tb.kept_yes hr he
      refine Sx.seq (fun K9 hK9 => ?_)
      refine Sx.seq (fun K10 hK10 => ?_)
      refine Sx.plain ?_
      refine Sx.sv F (Sx.d_move F (Or.inl rfl) rfl) (Sx.wanted_none rfl _) rfl (by decide) (fun A F => ?_)
      refine Sx.sv F (Sx.d_move F (Or.inl rfl) rfl) (Sx.wanted_none rfl _) rfl (by decide) (fun A F => ?_)
      refine Sx.sv F (Sx.d_nil F rfl rfl) (Sx.wanted_none rfl _) rfl (by decide) (fun A F => ?_)
      refine Sx.sv F (Sx.d_faddr (v := .pointer (some ⟨tb, 0, none⟩)) F rfl rfl (fa_64_0 _ 0 _)) (Sx.wanted_none rfl _) rfl (by decide) (fun A F => ?_)
      refine Sx.sv F (Sx.d_load1 (i := 0) (v := .slice (some ⟨lg, 0, none⟩) sT.l.length lc) one_62 F H rfl rfl rfl rfl) (Sx.wanted_none rfl _) rfl (by decide) (fun A F => ?_)
      refine Sx.sv F (Sx.d_len (i := 1) el_62 F H rfl rfl rfl) (Sx.wanted_none rfl _) rfl (by decide) (fun A F => ?_)
      refine Sx.sv F (Sx.d_bin (v := .bool true) F rfl rfl rfl (Sx.i_lt (decide_eq_true (by omega)))) (Sx.wanted_none rfl _) rfl (by decide) (fun A F => ?_)
      refine Sx.nil ?_
      refine hK10 _ _ ?_
      refine Sx.condT F rfl ?_
      refine wp_skip ?_
      refine hK9 _ _ ?_
      refine Sx.seq (fun K11 hK11 => ?_)
      refine wp_block ?_
      refine Sx.seq (fun K12 hK12 => ?_)
      refine Sx.plain ?_
      refine Sx.sv F (Sx.d_move F (Or.inl rfl) rfl) (Sx.wanted_none rfl _) rfl (by decide) (fun A F => ?_)
      refine Sx.sv F (Sx.d_nil F rfl rfl) (Sx.wanted_none rfl _) rfl (by decide) (fun A F => ?_)
      refine Sx.sv F (Sx.d_faddr (v := .pointer (some ⟨tb, 0, none⟩)) F rfl rfl (fa_64_0 _ 0 _)) (Sx.wanted_none rfl _) rfl (by decide) (fun A F => ?_)
      refine Sx.sv F (Sx.d_load1 (i := 0) (v := .slice (some ⟨lg, 0, none⟩) sT.l.length lc) one_62 F H rfl rfl rfl rfl) (Sx.wanted_none rfl _) rfl (by decide) (fun A F => ?_)
      refine Sx.sv F (Sx.d_move F (Or.inl rfl) rfl) (Sx.wanted_none rfl _) rfl (by decide) (fun A F => ?_)
      refine Sx.sv F (Sx.d_ixRZ (k := i) (z := 2) el_62 F rfl rfl rfl (rfl) (by omega)) (Sx.wanted_none rfl _) rfl (by decide) (fun A F => ?_)
      refine Sx.sv F (Sx.d_faddr (v := .pointer (some ⟨lg, i * 2, none⟩)) F rfl rfl (fa_103_0 _ (i * 2) _)) (Sx.wanted_none rfl _) rfl (by decide) (fun A F => ?_)
      refine Sx.sv F (Sx.d_loadRZ (i := 1) (k := i * 2) (v := .int .i64 r.1) one_3 F H rfl rfl rfl ((Tb.cells_at _ i r hr).1)) (Sx.wanted_none rfl _) rfl (by decide) (fun A F => ?_)
      refine Sx.sv F (Sx.d_move F (Or.inl rfl) rfl) (Sx.wanted_none rfl _) rfl (by decide) (fun A F => ?_)
      refine Sx.sv F (Sx.d_bin (v := .bool true) F rfl rfl rfl (Sx.i_ne (bne_iff_ne.2 he))) (Sx.wanted_none rfl _) rfl (by decide) (fun A F => ?_)
      refine Sx.nil ?_
      refine hK12 _ _ ?_
      refine Sx.condT F rfl ?_
      refine Sx.plain ?_
      refine Sx.sv F (Sx.d_move F (Or.inl rfl) rfl) (Sx.wanted_none rfl _) rfl (by decide) (fun A F => ?_)
      refine Sx.sv F (Sx.d_move F (Or.inl rfl) rfl) (Sx.wanted_none rfl _) rfl (by decide) (fun A F => ?_)
      refine Sx.sv F (Sx.d_nil F rfl rfl) (Sx.wanted_none rfl _) rfl (by decide) (fun A F => ?_)
      refine Sx.sv F (Sx.d_faddr (v := .pointer (some ⟨tb, 0, none⟩)) F rfl rfl (fa_64_0 _ 0 _)) (Sx.wanted_none rfl _) rfl (by decide) (fun A F => ?_)
      refine Sx.sv F (Sx.d_load1 (i := 0) (v := .slice (some ⟨lg, 0, none⟩) sT.l.length lc) one_62 F H rfl rfl rfl rfl) (Sx.wanted_none rfl _) rfl (by decide) (fun A F => ?_)
      refine Sx.sv F (Sx.d_move F (Or.inl rfl) rfl) (Sx.wanted_none rfl _) rfl (by decide) (fun A F => ?_)
      refine Sx.sv F (Sx.d_ixRZ (k := i) (z := 2) el_62 F rfl rfl rfl (rfl) (by omega)) (Sx.wanted_none rfl _) rfl (by decide) (fun A F => ?_)
      refine Sx.sv F (Sx.d_loadR2 (i := 1) (k := i * 2) (c0 := .int .i64 r.1) (c1 := .int .u64 r.2.toNat) rw_103 F H rfl rfl rfl (Tb.cells_at _ i r hr).1 (Tb.cells_at _ i r hr).2) (Sx.wanted_none rfl _) rfl (by decide) (fun A F => ?_)
      refine Sx.sg (mk := fun g => .slice (some ⟨g, 0, none⟩) 1 1) F (Sx.d_lit (qs := #[(0, .agg #[.int .i64 r.1, .int .u64 r.2.toNat])]) (cs := #[.int .i64 r.1, .int .u64 r.2.toNat]) (E := 103) F H rfl rfl (fun _ => by kernel_rfl)) (Sx.wanted_none rfl _) rfl (by decide) (fun g1 A w F (H : Sx.Own w0 _ ((true, g1, [.int .i64 r.1, .int .u64 r.2.toNat]) :: (true, tb, [.slice (some ⟨lg, 0, none⟩) sT.l.length lc, .int .i64 sT.n]) :: bs) (⟨true, u, 103, 2, (Tb.kept h sT.l i).length, (Tb.cells (Tb.kept h sT.l i))⟩ :: ⟨true, .slice (some ⟨lg, 0, none⟩) sT.l.length lc, 103, 2, sT.l.length, (Tb.cells sT.l)⟩ :: rs)) => ?_)
      refine Sx.sr (mk := fun v => v) F (Sx.d_append (i := 0) (j := 0) el_62 F H rfl rfl rfl rfl rfl rfl rfl rfl (by omega) (by decide)) (Sx.wanted_none rfl _) rfl (by decide) (fun v2 A w F (H : Sx.Own w0 _ ((true, g1, [.int .i64 r.1, .int .u64 r.2.toNat]) :: (true, tb, [.slice (some ⟨lg, 0, none⟩) sT.l.length lc, .int .i64 sT.n]) :: bs) (⟨true, v2, 103, 2, ((Tb.kept h sT.l i).length + 1), (Tb.cells (Tb.kept h sT.l i)) ++ [.int .i64 r.1, .int .u64 r.2.toNat]⟩ :: ⟨true, .slice (some ⟨lg, 0, none⟩) sT.l.length lc, 103, 2, sT.l.length, (Tb.cells sT.l)⟩ :: rs)) => ?_)
      refine Sx.sv F (Sx.d_move F (Or.inr rfl) rfl) (Sx.wanted_none rfl _) rfl (by decide) (fun A F => ?_)
      refine Sx.nil ?_
      refine hK11 _ _ ?_
      refine Sx.plain ?_
      refine Sx.sv F (Sx.d_move F (Or.inl rfl) rfl) (Sx.wanted_none rfl _) rfl (by decide) (fun A F => ?_)
      refine Sx.sv F (Sx.d_bin (v := .int .i64 (i + 1 : Nat)) F rfl rfl rfl (Sx.i_addN rfl (Sx.in_i64 _ (by omega)))) (Sx.wanted_none rfl _) rfl (by decide) (fun A F => ?_)
      refine Sx.sv F (Sx.d_move F (Or.inr rfl) rfl) (Sx.wanted_none rfl _) rfl (by decide) (fun A F => ?_)
      refine Sx.nil ?_
      try dsimp only [Exit.then]
      exact ⟨sT.l.length - (i + 1), by omega, i + 1, v2, rfl, by omega, F.to ⟨rfl, rfl, rfl, rfl, trivial⟩, by rw [hkk, List.length_append, List.length_singleton, ← Tb.cells_snoc]; exact H.tailB⟩
  · have hie : i = sT.l.length := by omega
    rw [hie] at F H hkl
    refine Sx.seq (fun K13 hK13 => ?_)
    refine Sx.seq (fun K14 hK14 => ?_)
    refine Sx.plain ?_
    refine Sx.sv F (Sx.d_move F (Or.inl rfl) rfl) (Sx.wanted_none rfl _) rfl (by decide) (fun A F => ?_)
    refine Sx.sv F (Sx.d_move F (Or.inl rfl) rfl) (Sx.wanted_none rfl _) rfl (by decide) (fun A F => ?_)
    refine Sx.sv F (Sx.d_nil F rfl rfl) (Sx.wanted_none rfl _) rfl (by decide) (fun A F => ?_)
    refine Sx.sv F (Sx.d_faddr (v := .pointer (some ⟨tb, 0, none⟩)) F rfl rfl (fa_64_0 _ 0 _)) (Sx.wanted_none rfl _) rfl (by decide) (fun A F => ?_)
    refine Sx.sv F (Sx.d_load1 (i := 0) (v := v) one_62 F H rfl rfl rfl rfl) (Sx.wanted_none rfl _) rfl (by decide) (fun A F => ?_)
    refine Sx.sv F (Sx.d_len (i := 1) el_62 F H rfl rfl rfl) (Sx.wanted_none rfl _) rfl (by decide) (fun A F => ?_)
    refine Sx.sv F (Sx.d_bin (v := .bool false) F rfl rfl rfl (Sx.i_lt (by simp))) (Sx.wanted_none rfl _) rfl (by decide) (fun A F => ?_)
    refine Sx.nil ?_
    refine hK14 _ _ ?_
    refine Sx.condF F rfl ?_
    refine wp_exit ?_
    try dsimp only [Exit.then, Exit.jump]
    refine Sx.exit_here ?_
    refine hK3 _ _ ?_
    refine Sx.seq (fun K15 hK15 => ?_)
    refine Sx.plain ?_
    refine Sx.sv F (Sx.d_move F (Or.inl rfl) rfl) (Sx.wanted_none rfl _) rfl (by decide) (fun A F => ?_)
    refine Sx.sv F (Sx.d_len (i := 0) el_62 F H rfl rfl rfl) (Sx.wanted_none rfl _) rfl (by decide) (fun A F => ?_)
    refine Sx.sv F (Sx.d_move F (Or.inl rfl) rfl) (Sx.wanted_none rfl _) rfl (by decide) (fun A F => ?_)
    refine Sx.sv F (Sx.d_nil F rfl rfl) (Sx.wanted_none rfl _) rfl (by decide) (fun A F => ?_)
    refine Sx.sv F (Sx.d_faddr (v := .pointer (some ⟨tb, 0, none⟩)) F rfl rfl (fa_64_0 _ 0 _)) (Sx.wanted_none rfl _) rfl (by decide) (fun A F => ?_)
    refine Sx.sv F (Sx.d_load1 (i := 0) (v := v) one_62 F H rfl rfl rfl rfl) (Sx.wanted_none rfl _) rfl (by decide) (fun A F => ?_)
    refine Sx.sv F (Sx.d_len (i := 1) el_62 F H rfl rfl rfl) (Sx.wanted_none rfl _) rfl (by decide) (fun A F => ?_)
    refine Sx.sv F (Sx.d_bin (v := .bool (decide (((Tb.kept h sT.l sT.l.length).length : Int) < (sT.l.length : Int)))) F rfl rfl rfl (Sx.i_lt rfl)) (Sx.wanted_none rfl _) rfl (by decide) (fun A F => ?_)
    refine Sx.sv F (Sx.d_move F (Or.inr rfl) rfl) (Sx.wanted_none rfl _) rfl (by decide) (fun A F => ?_)
    refine Sx.nil ?_
    refine hK15 _ _ ?_
    refine Sx.seq (fun K16 hK16 => ?_)
    refine Sx.plain ?_
    refine Sx.sv F (Sx.d_move F (Or.inl rfl) rfl) (Sx.wanted_none rfl _) rfl (by decide) (fun A F => ?_)
    refine Sx.sv F (Sx.d_move F (Or.inl rfl) rfl) (Sx.wanted_none rfl _) rfl (by decide) (fun A F => ?_)
    refine Sx.sv F (Sx.d_nil F rfl rfl) (Sx.wanted_none rfl _) rfl (by decide) (fun A F => ?_)
    refine Sx.sv F (Sx.d_faddr (v := .pointer (some ⟨tb, 0, none⟩)) F rfl rfl (fa_64_0 _ 0 _)) (Sx.wanted_none rfl _) rfl (by decide) (fun A F => ?_)
    obtain ⟨sad, scap, rfl⟩ := Sx.len_of (k := (Tb.kept h sT.l sT.l.length).length) (Sx.rowEq (v := u) (H.row 0 _ rfl rfl) rfl rfl rfl rfl rfl)
    refine Sx.ss F (Sx.d_store (i := 0) (xs := [.slice sad (Tb.kept h sT.l sT.l.length).length scap]) (us := [.slice sad (Tb.kept h sT.l sT.l.length).length scap, .int .i64 sT.n]) sz_62 F H rfl rfl rfl rfl rfl rfl rfl (Nat.le_of_ble_eq_true rfl) rfl) (Sx.wanted_none rfl _) rfl (fun A w F (H : Sx.Own w0 _ ((true, tb, [.slice sad (Tb.kept h sT.l sT.l.length).length scap, .int .i64 sT.n]) :: bs) (⟨true, .slice sad (Tb.kept h sT.l sT.l.length).length scap, 103, 2, (Tb.kept h sT.l sT.l.length).length, (Tb.cells (Tb.kept h sT.l sT.l.length))⟩ :: ⟨true, v, 103, 2, sT.l.length, (Tb.cells sT.l)⟩ :: rs)) => ?_)
    refine Sx.nil ?_
    refine hK16 _ _ ?_
    refine Sx.seq (fun K17 hK17 => ?_)
    refine Sx.plain ?_
    refine Sx.sv F (Sx.d_move F (Or.inl rfl) rfl) (Sx.wanted_none rfl _) rfl (by decide) (fun A F => ?_)
    refine Sx.sv F (Sx.d_move F (Or.inr rfl) rfl) (Sx.wanted_none rfl _) rfl (by decide) (fun A F => ?_)
    refine Sx.nil ?_
    refine hK17 _ _ ?_
    refine wp_ret ?_
    try dsimp only [Exit.then, Exit.inBlock, Exit.jump]
    refine Sx.ret1 F Try.results40 (Sx.res_tmp (v := .bool (decide (((Tb.kept h sT.l sT.l.length).length : Int) < (sT.l.length : Int)))) F rfl) ?_
    refine ⟨congrArg (fun b => Ending.returned (.bool b)) (Tb.kept_has sT h), .slice sad (sT.l.filter (fun r => r.1 != h)).length scap, ?_⟩
    rw [Tb.kept_all] at H
    exact H.dropR2
theorem rtdrop_k (sT : Tb.S) (h : Int) (hok : sT.ok) (tb : Nat) (v : Value) (w0 w : World) {bs : List Sx.Bx} {rs : List Sx.Rx} (H : Sx.Own w0 w ((true, tb, [v, .int .i64 sT.n]) :: bs) (⟨true, v, 103, 2, sT.l.length, Tb.cells sT.l⟩ :: rs)) : Calls Try.prog 40 #[.pointer (some ⟨tb, 0, none⟩), .int .i64 h] w fun e w' => e = .returned (.bool (Tb.S.has sT h)) ∧ ∃ v', Sx.Own w0 w' ((true, tb, [v', .int .i64 (Tb.S.drop sT h).n]) :: bs) (⟨true, v', 103, 2, (Tb.S.drop sT h).l.length, Tb.cells (Tb.S.drop sT h).l⟩ :: rs) := rtdrop_c sT hok h tb v w0 w bs rs H
end Go.Proofs.Ytpbdffmgendboab
