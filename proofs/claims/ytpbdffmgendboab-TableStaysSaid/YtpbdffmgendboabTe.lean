/- Tables that are made and copied, walked; lists that are the same. -/
import Derived.Test.YtpbdffmgendboabTd
import Derived.Test.YtpbdffmgendboabTbMore
namespace Go.Proofs.Ytpbdffmgendboab
open Go Go.RowKit
set_option maxRecDepth 100000 in
theorem tnew_c  (w0 : World) : Calls Try.prog 37 #[] w0 fun e w' => ∃ g v, e = .returned (.pointer (some ⟨g, 0, none⟩)) ∧ Sx.Own w0 w' [(true, g, [v, .int .i64 (Tb.S.new).n])] [⟨true, v, 107, 2, (Tb.S.new).l.length, Tb.cells (Tb.S.new).l⟩] := by
  refine Sx.enter (args := []) Try.func37 rfl Try.ntmps37 (Nat.le_of_ble_eq_true rfl) (fun A F => ?_)
  have H := Sx.Own.start w0
  refine Sx.seq (fun K1 hK1 => ?_)
  refine Sx.plain ?_
  refine Sx.sv F (Sx.d_move F (Or.inr rfl) rfl) (Sx.wanted_none rfl _) rfl (by decide) (fun A F => ?_)
  refine Sx.nil ?_
  refine hK1 _ _ ?_
  refine Sx.seq (fun K2 hK2 => ?_)
  refine Sx.plain ?_
  refine Sx.sv F (Sx.d_build (qs := #[]) (v := .agg #[.slice none 0 0, .int .i64 0]) F rfl rfl (by kernel_rfl)) (Sx.wanted_none rfl _) rfl (by decide) (fun A F => ?_)
  refine Sx.sb F (Sx.d_box F H rfl rfl [.slice none 0 0, .int .i64 0] rfl) (Sx.wanted_none rfl _) rfl (by decide) (fun g1 A w F H => ?_)
  refine Sx.sv F (Sx.d_move F (Or.inr rfl) rfl) (Sx.wanted_none rfl _) rfl (by decide) (fun A F => ?_)
  refine Sx.nil ?_
  refine hK2 _ _ ?_
  refine wp_ret ?_
  try dsimp only [Exit.then, Exit.inBlock, Exit.jump]
  refine Sx.ret1 F Try.results37 (Sx.res_tmp (v := .pointer (some ⟨g1, 0, none⟩)) F rfl) ?_
  exact ⟨_, .slice none 0 0, rfl, H.nilR 107 2⟩
set_option maxRecDepth 100000 in
theorem clone_s (l : List Tb.R) (few : l.length ≤ 16) (ada : Option Addr) (capa : Nat) (w0 : World) (hca : ∀ k r, l[k]? = some r → ∃ g o, ada = some ⟨g, o, none⟩ ∧ w0.cell? ⟨g, o + k * 2, none⟩ = some (.int .i64 r.1) ∧ w0.cell? ⟨g, o + k * 2 + 1, none⟩ = some (.int .u64 (r.2.toNat : Nat))) : Calls Try.prog 68 #[.slice ada l.length capa] w0 fun e w' => ∃ v, e = .returned v ∧ w'.ownsRow w0.heap.size 107 2 v l.length (Tb.cells l) ∧ Below w0.heap.size w0 w' := by
  refine Sx.enter (args := [.slice ada l.length capa]) Try.func68 rfl Try.ntmps68 (Nat.le_of_ble_eq_true rfl) (fun A F => ?_)
  have H := Sx.Own.start w0
  refine Sx.seq (fun K1 hK1 => ?_)
  refine Sx.plain ?_
  refine Sx.sv F (Sx.d_move F (Or.inr rfl) rfl) (Sx.wanted_none rfl _) rfl (by decide) (fun A F => ?_)
  refine Sx.nil ?_
  refine hK1 _ _ ?_
  rcases ada with _ | adr
  · have hnil : l = [] := by
      rcases l with _ | ⟨r, l⟩
      · rfl
      · obtain ⟨g, o, e, _⟩ := hca 0 r rfl; cases e
    subst hnil
    refine Sx.seq (fun K2 hK2 => ?_)
    refine Sx.seq (fun K3 hK3 => ?_)
    refine Sx.plain ?_
    refine Sx.sv F (Sx.d_move F (Or.inl rfl) rfl) (Sx.wanted_none rfl _) rfl (by decide) (fun A F => ?_)
    refine Sx.sv F (Sx.d_bin (v := .bool true) F rfl rfl rfl (Sx.i_slnil Sx.undRow (rfl))) (Sx.wanted_none rfl _) rfl (by decide) (fun A F => ?_)
    refine Sx.nil ?_
    refine hK3 _ _ ?_
    refine Sx.condT F rfl ?_
    refine Sx.seq (fun K4 hK4 => ?_)
    refine Sx.plain ?_
    refine Sx.sv F (Sx.d_move F (Or.inr rfl) rfl) (Sx.wanted_none rfl _) rfl (by decide) (fun A F => ?_)
    refine Sx.nil ?_
    refine hK4 _ _ ?_
    refine wp_ret ?_
    try dsimp only [Exit.then, Exit.inBlock, Exit.jump]
    refine Sx.ret1 F Try.results68 (Sx.res_tmp (v := .slice none 0 0) F rfl) ?_
    have H := H.nilR 107 2
    exact ⟨_, rfl, H.row 0 _ rfl rfl, H.below⟩
  · have hsrc := Tb.src hca rfl
    refine Sx.seq (fun K5 hK5 => ?_)
    refine Sx.seq (fun K6 hK6 => ?_)
    refine Sx.plain ?_
    refine Sx.sv F (Sx.d_move F (Or.inl rfl) rfl) (Sx.wanted_none rfl _) rfl (by decide) (fun A F => ?_)
    refine Sx.sv F (Sx.d_bin (v := .bool false) F rfl rfl rfl (Sx.i_slnil Sx.undRow (rfl))) (Sx.wanted_none rfl _) rfl (by decide) (fun A F => ?_)
    refine Sx.nil ?_
    refine hK6 _ _ ?_
    refine Sx.condF F rfl ?_
    refine wp_skip ?_
    refine hK5 _ _ ?_
    refine Sx.seq (fun K7 hK7 => ?_)
    refine Sx.plain ?_
    refine Sx.sr (mk := fun v => v) F (Sx.d_litR (qs := #[]) (cs := #[]) (E := 107) (z := 2) F H rfl rfl (fun _ => by kernel_rfl) rfl (by decide)) (Sx.wanted_none rfl _) rfl (by decide) (fun v1 A w F (H : Sx.Own w0 _ [] [⟨true, v1, 107, 2, 0, []⟩]) => ?_)
    refine Sx.sv F (Sx.d_move F (Or.inl rfl) rfl) (Sx.wanted_none rfl _) rfl (by decide) (fun A F => ?_)
    refine Sx.sr (mk := fun v => v) F (Sx.d_appendF (i := 0) el_99 F H rfl rfl rfl rfl (Tb.cells_len l) hsrc (Tb.ones l) rfl (by omega) (by decide)) (Sx.wanted_none rfl _) rfl (by decide) (fun v2 A w F (H : Sx.Own w0 _ [] [⟨true, v2, 107, 2, (0 + l.length), [] ++ Tb.cells l⟩]) => ?_)
    refine Sx.sv F (Sx.d_move F (Or.inr rfl) rfl) (Sx.wanted_none rfl _) rfl (by decide) (fun A F => ?_)
    refine Sx.nil ?_
    refine hK7 _ _ ?_
    refine wp_ret ?_
    try dsimp only [Exit.then, Exit.inBlock, Exit.jump]
    refine Sx.ret1 F Try.results68 (Sx.res_tmp (v := v2) F rfl) ?_
    exact ⟨_, rfl, Sx.rowEq (H.row 0 _ rfl rfl) rfl rfl rfl (Nat.zero_add _) rfl, H.below⟩
theorem clone_c (l : List Tb.R) (few : l.length ≤ 16) (v : Value) (w0 : World) (hv : Tb.Rd w0 v l) : Calls Try.prog 68 #[v] w0 fun e w' => ∃ v, e = .returned v ∧ w'.ownsRow w0.heap.size 107 2 v l.length (Tb.cells l) ∧ Below w0.heap.size w0 w' := by
  obtain ⟨ada, capa, rfl, hca⟩ := hv
  exact clone_s l few ada capa w0 hca
set_option maxRecDepth 100000 in
theorem tcopy_s (sT : Tb.S) (hok : sT.ok) (f : FuncId) (gf : BitVec 64 → BitVec 64) (hf : Sx.isFn Try.prog f) (hg : ∀ (x : BitVec 64) (w : World), Calls Try.prog f #[.int .u64 x.toNat] w fun e w' => e = .returned (.int .u64 (gf x).toNat) ∧ Below w.heap.size w w') (tb : Nat) (w0 : World) (ada : Option Addr) (capa : Nat) (hc0 : w0.cell? ⟨tb, 0, none⟩ = some (.slice ada sT.l.length capa)) (hc1 : w0.cell? ⟨tb, 1, none⟩ = some (.int .i64 sT.n)) (hca : ∀ k r, sT.l[k]? = some r → ∃ g o, ada = some ⟨g, o, none⟩ ∧ w0.cell? ⟨g, o + k * 2, none⟩ = some (.int .i64 r.1) ∧ w0.cell? ⟨g, o + k * 2 + 1, none⟩ = some (.int .u64 (r.2.toNat : Nat))) : Calls Try.prog 50 #[.pointer (some ⟨tb, 0, none⟩), .func (.func f) #[] #[]] w0 fun e w' => ∃ g v, e = .returned (.pointer (some ⟨g, 0, none⟩)) ∧ Sx.Own w0 w' [(true, g, [v, .int .i64 (Tb.S.map sT gf).n])] [⟨true, v, 107, 2, (Tb.S.map sT gf).l.length, Tb.cells (Tb.S.map sT gf).l⟩] := by
  refine Sx.enter (args := [.pointer (some ⟨tb, 0, none⟩), .func (.func f) #[] #[]]) Try.func50 rfl Try.ntmps50 (Nat.le_of_ble_eq_true rfl) (fun A F => ?_)
  have H := Sx.Own.start w0
  refine Sx.seq (fun K1 hK1 => ?_)
  refine Sx.plain ?_
  refine Sx.sv F (Sx.d_move F (Or.inr rfl) rfl) (Sx.wanted_none rfl _) rfl (by decide) (fun A F => ?_)
  refine Sx.nil ?_
  refine hK1 _ _ ?_
  refine Sx.seq (fun K2 hK2 => ?_)
  have F := Sx.Fr.to F (kv' := [(0, .pointer (some ⟨tb, 0, none⟩)), (1, .func (.func f) #[] #[]), (4, .pointer none)]) ⟨rfl, rfl, rfl, trivial⟩
  refine Sx.drawn F (by kernel_rfl) (by kernel_rfl) (by kernel_rfl) [some (.pointer (some ⟨tb, 0, none⟩)), some (.pointer (some ⟨tb, 0, none⟩)), some (.pointer (some ⟨tb, 0, none⟩)), some (.slice ada sT.l.length capa), none, some (.pointer (some ⟨tb, 0, none⟩)), some (.pointer (some ⟨tb, 0, none⟩)), some (.pointer (some ⟨tb, 1, none⟩)), some (.int .i64 sT.n), none, none, none] (fun L A w => ∃ v1 : Value, ∃ g1 : Nat, (L 4 = true → A.eval (.tmp 11) = v1) ∧ (L 9 = true → A.eval (.tmp 16) = .agg #[v1, .int .i64 sT.n]) ∧ (L 10 = true → A.eval (.tmp 17) = .pointer (some ⟨g1, 0, none⟩)) ∧ (L 11 = true → A.eval (.tmp 5) = .pointer (some ⟨g1, 0, none⟩)) ∧ Sx.Own w0 w [(L 10, g1, [v1, .int .i64 sT.n])] [⟨L 4, v1, 107, 2, sT.l.length, (Tb.cells sT.l)⟩]) ⟨undef, 0, (fun h => by cases h), (fun h => by cases h), (fun h => by cases h), (fun h => by cases h), H.drew.pad [(false, 0, [undef, .int .i64 sT.n])] rfl [⟨false, undef, 107, 2, sT.l.length, (Tb.cells sT.l)⟩] rfl⟩ ?_ ?_
  · refine ⟨?_, ?_, ?_, ?_, ?_, ?_, ?_, ?_, ?_, ?_, ?_, ?_, trivial⟩
    · show Sx.StepAt _ _ _ _ _ _ _ 0
      intro L A w up hun hd F ⟨v1, g1, p4, p9, p10, p11, H⟩
      have f1 : L 1 = false := up 1 0 rfl hun
      have f2 : L 2 = false := up 2 1 rfl f1
      have f3 : L 3 = false := up 3 2 rfl f2
      have f4 : L 4 = false := up 4 3 rfl f3
      have f9 : L 9 = false := up 9 4 rfl f4
      have f10 : L 10 = false := up 10 9 rfl f9
      have f11 : L 11 = false := up 11 0 rfl hun
      rw [f4, f10] at H
      have F := Sx.Fr.to F (kv' := [(0, .pointer (some ⟨tb, 0, none⟩))]) ⟨rfl, trivial⟩
      refine Sx.step_on rfl (Sx.d_move F (Or.inl rfl) rfl) ?_
      rintro xv w' ⟨hx, rfl⟩
      exact ⟨(fun cv hc => hx.trans (Option.some.inj (Option.some.inj hc))), ⟨v1, g1, (fun h => absurd (show L 4 = true from h) (by rw [f4]; decide)), (fun h => absurd (show L 9 = true from h) (by rw [f9]; decide)), (fun h => absurd (show L 10 = true from h) (by rw [f10]; decide)), (fun h => absurd (show L 11 = true from h) (by rw [f11]; decide)), (by show Sx.Own _ _ _ _; rw [show Inv.add L 0 4 = false from f4, show Inv.add L 0 10 = false from f10]; exact H)⟩⟩
    · show Sx.StepAt _ _ _ _ _ _ _ 1
      intro L A w up hun hd F ⟨v1, g1, p4, p9, p10, p11, H⟩
      have f2 : L 2 = false := up 2 1 rfl hun
      have f3 : L 3 = false := up 3 2 rfl f2
      have f4 : L 4 = false := up 4 3 rfl f3
      have f9 : L 9 = false := up 9 4 rfl f4
      have f10 : L 10 = false := up 10 9 rfl f9
      have f11 : L 11 = false := up 11 1 rfl hun
      rw [f4, f10] at H
      have F := Sx.Fr.to F (kv' := [(7, .pointer (some ⟨tb, 0, none⟩))]) ⟨rfl, trivial⟩
      refine Sx.step_on rfl (Sx.d_nil F rfl rfl) ?_
      rintro xv w' ⟨hx, rfl⟩
      exact ⟨(fun cv hc => hx.trans (Option.some.inj (Option.some.inj hc))), ⟨v1, g1, (fun h => absurd (show L 4 = true from h) (by rw [f4]; decide)), (fun h => absurd (show L 9 = true from h) (by rw [f9]; decide)), (fun h => absurd (show L 10 = true from h) (by rw [f10]; decide)), (fun h => absurd (show L 11 = true from h) (by rw [f11]; decide)), (by show Sx.Own _ _ _ _; rw [show Inv.add L 1 4 = false from f4, show Inv.add L 1 10 = false from f10]; exact H)⟩⟩
    · show Sx.StepAt _ _ _ _ _ _ _ 2
      intro L A w up hun hd F ⟨v1, g1, p4, p9, p10, p11, H⟩
      have f3 : L 3 = false := up 3 2 rfl hun
      have f4 : L 4 = false := up 4 3 rfl f3
      have f9 : L 9 = false := up 9 4 rfl f4
      have f10 : L 10 = false := up 10 9 rfl f9
      have f11 : L 11 = false := up 11 2 rfl hun
      rw [f4, f10] at H
      have F := Sx.Fr.to F (kv' := [(8, .pointer (some ⟨tb, 0, none⟩))]) ⟨rfl, trivial⟩
      refine Sx.step_on rfl (Sx.d_faddr (v := .pointer (some ⟨tb, 0, none⟩)) F rfl rfl (fa_101_0 _ (0) _)) ?_
      rintro xv w' ⟨hx, rfl⟩
      exact ⟨(fun cv hc => hx.trans (Option.some.inj (Option.some.inj hc))), ⟨v1, g1, (fun h => absurd (show L 4 = true from h) (by rw [f4]; decide)), (fun h => absurd (show L 9 = true from h) (by rw [f9]; decide)), (fun h => absurd (show L 10 = true from h) (by rw [f10]; decide)), (fun h => absurd (show L 11 = true from h) (by rw [f11]; decide)), (by show Sx.Own _ _ _ _; rw [show Inv.add L 2 4 = false from f4, show Inv.add L 2 10 = false from f10]; exact H)⟩⟩
    · show Sx.StepAt _ _ _ _ _ _ _ 3
      intro L A w up hun hd F ⟨v1, g1, p4, p9, p10, p11, H⟩
      have f4 : L 4 = false := up 4 3 rfl hun
      have f9 : L 9 = false := up 9 4 rfl f4
      have f10 : L 10 = false := up 10 9 rfl f9
      have f11 : L 11 = false := up 11 3 rfl hun
      rw [f4, f10] at H
      have F := Sx.Fr.to F (kv' := [(9, .pointer (some ⟨tb, 0, none⟩))]) ⟨rfl, trivial⟩
      refine Sx.step_on rfl (Sx.d_loadF one_99 F H rfl rfl hc0) ?_
      rintro xv w' ⟨hx, rfl⟩
      exact ⟨(fun cv hc => hx.trans (Option.some.inj (Option.some.inj hc))), ⟨v1, g1, (fun h => absurd (show L 4 = true from h) (by rw [f4]; decide)), (fun h => absurd (show L 9 = true from h) (by rw [f9]; decide)), (fun h => absurd (show L 10 = true from h) (by rw [f10]; decide)), (fun h => absurd (show L 11 = true from h) (by rw [f11]; decide)), (by show Sx.Own _ _ _ _; rw [show Inv.add L 3 4 = false from f4, show Inv.add L 3 10 = false from f10]; exact H)⟩⟩
    · show Sx.StepAt _ _ _ _ _ _ _ 4
      intro L A w up hun hd F ⟨v1, g1, p4, p9, p10, p11, H⟩
      have f4 : L 4 = false := hun
      have f9 : L 9 = false := up 9 4 rfl hun
      have f10 : L 10 = false := up 10 9 rfl f9
      have f11 : L 11 = false := up 11 4 rfl hun
      rw [f4, f10] at H
      have F := Sx.Fr.to F (kv' := [(10, .slice ada sT.l.length capa)]) ⟨rfl, trivial⟩
      refine Sx.step_on rfl (Sx.d_callR_at 0 (vs := [.slice ada sT.l.length capa]) (mk := fun v => v) if_68 F H rfl rfl (clone_c sT.l hok.few _ _ (Tb.Rd.lift ⟨ada, capa, rfl, hca⟩ H.below))) ?_
      rintro xv w' ⟨v', hx, H⟩
      have H := H.offB 0 (false, g1, [v', .int .i64 sT.n]) rfl
      exact ⟨(fun cv hc => by have h := Option.some.inj hc; cases h), ⟨v', g1, (fun _ => (Sx.put_same F (by decide) _).trans hx), (fun h => absurd (show L 9 = true from h) (by rw [f9]; decide)), (fun h => absurd (show L 10 = true from h) (by rw [f10]; decide)), (fun h => absurd (show L 11 = true from h) (by rw [f11]; decide)), (by show Sx.Own _ _ _ _; rw [show Inv.add L 4 10 = false from f10]; exact H)⟩⟩
    · show Sx.StepAt _ _ _ _ _ _ _ 5
      intro L A w up hun hd F ⟨v1, g1, p4, p9, p10, p11, H⟩
      have f6 : L 6 = false := up 6 5 rfl hun
      have f7 : L 7 = false := up 7 6 rfl f6
      have f8 : L 8 = false := up 8 7 rfl f7
      have f9 : L 9 = false := up 9 8 rfl f8
      have f10 : L 10 = false := up 10 9 rfl f9
      have f11 : L 11 = false := up 11 5 rfl hun
      rw [f10] at H
      have F := Sx.Fr.to F (kv' := [(0, .pointer (some ⟨tb, 0, none⟩))]) ⟨rfl, trivial⟩
      refine Sx.step_on rfl (Sx.d_move F (Or.inl rfl) rfl) ?_
      rintro xv w' ⟨hx, rfl⟩
      exact ⟨(fun cv hc => hx.trans (Option.some.inj (Option.some.inj hc))), ⟨v1, g1, (fun h => (Sx.put_ne rfl _).trans (p4 h)), (fun h => absurd (show L 9 = true from h) (by rw [f9]; decide)), (fun h => absurd (show L 10 = true from h) (by rw [f10]; decide)), (fun h => absurd (show L 11 = true from h) (by rw [f11]; decide)), (by show Sx.Own _ _ _ _; rw [show Inv.add L 5 10 = false from f10]; exact H)⟩⟩
    · show Sx.StepAt _ _ _ _ _ _ _ 6
      intro L A w up hun hd F ⟨v1, g1, p4, p9, p10, p11, H⟩
      have f7 : L 7 = false := up 7 6 rfl hun
      have f8 : L 8 = false := up 8 7 rfl f7
      have f9 : L 9 = false := up 9 8 rfl f8
      have f10 : L 10 = false := up 10 9 rfl f9
      have f11 : L 11 = false := up 11 6 rfl hun
      rw [f10] at H
      have F := Sx.Fr.to F (kv' := [(12, .pointer (some ⟨tb, 0, none⟩))]) ⟨rfl, trivial⟩
      refine Sx.step_on rfl (Sx.d_nil F rfl rfl) ?_
      rintro xv w' ⟨hx, rfl⟩
      exact ⟨(fun cv hc => hx.trans (Option.some.inj (Option.some.inj hc))), ⟨v1, g1, (fun h => (Sx.put_ne rfl _).trans (p4 h)), (fun h => absurd (show L 9 = true from h) (by rw [f9]; decide)), (fun h => absurd (show L 10 = true from h) (by rw [f10]; decide)), (fun h => absurd (show L 11 = true from h) (by rw [f11]; decide)), (by show Sx.Own _ _ _ _; rw [show Inv.add L 6 10 = false from f10]; exact H)⟩⟩
    · show Sx.StepAt _ _ _ _ _ _ _ 7
      intro L A w up hun hd F ⟨v1, g1, p4, p9, p10, p11, H⟩
      have f8 : L 8 = false := up 8 7 rfl hun
      have f9 : L 9 = false := up 9 8 rfl f8
      have f10 : L 10 = false := up 10 9 rfl f9
      have f11 : L 11 = false := up 11 7 rfl hun
      rw [f10] at H
      have F := Sx.Fr.to F (kv' := [(13, .pointer (some ⟨tb, 0, none⟩))]) ⟨rfl, trivial⟩
      refine Sx.step_on rfl (Sx.d_faddr (v := .pointer (some ⟨tb, 1, none⟩)) F rfl rfl (fa_101_1 _ (0) _)) ?_
      rintro xv w' ⟨hx, rfl⟩
      exact ⟨(fun cv hc => hx.trans (Option.some.inj (Option.some.inj hc))), ⟨v1, g1, (fun h => (Sx.put_ne rfl _).trans (p4 h)), (fun h => absurd (show L 9 = true from h) (by rw [f9]; decide)), (fun h => absurd (show L 10 = true from h) (by rw [f10]; decide)), (fun h => absurd (show L 11 = true from h) (by rw [f11]; decide)), (by show Sx.Own _ _ _ _; rw [show Inv.add L 7 10 = false from f10]; exact H)⟩⟩
    · show Sx.StepAt _ _ _ _ _ _ _ 8
      intro L A w up hun hd F ⟨v1, g1, p4, p9, p10, p11, H⟩
      have f9 : L 9 = false := up 9 8 rfl hun
      have f10 : L 10 = false := up 10 9 rfl f9
      have f11 : L 11 = false := up 11 8 rfl hun
      rw [f10] at H
      have F := Sx.Fr.to F (kv' := [(14, .pointer (some ⟨tb, 1, none⟩))]) ⟨rfl, trivial⟩
      refine Sx.step_on rfl (Sx.d_loadF one_3 F H rfl rfl hc1) ?_
      rintro xv w' ⟨hx, rfl⟩
      exact ⟨(fun cv hc => hx.trans (Option.some.inj (Option.some.inj hc))), ⟨v1, g1, (fun h => (Sx.put_ne rfl _).trans (p4 h)), (fun h => absurd (show L 9 = true from h) (by rw [f9]; decide)), (fun h => absurd (show L 10 = true from h) (by rw [f10]; decide)), (fun h => absurd (show L 11 = true from h) (by rw [f11]; decide)), (by show Sx.Own _ _ _ _; rw [show Inv.add L 8 10 = false from f10]; exact H)⟩⟩
    · show Sx.StepAt _ _ _ _ _ _ _ 9
      intro L A w up hun hd F ⟨v1, g1, p4, p9, p10, p11, H⟩
      have t4 : L 4 = true := hd 4 rfl
      have f9 : L 9 = false := hun
      have f10 : L 10 = false := up 10 9 rfl hun
      have f11 : L 11 = false := up 11 9 rfl hun
      rw [t4, f10] at H
      have F := Sx.Fr.to F (kv' := [(15, .int .i64 sT.n)]) ⟨rfl, trivial⟩
      have F := Sx.Fr.add F (p4 t4)
      refine Sx.step_on rfl (Sx.d_build (qs := #[(0, v1), (1, .int .i64 sT.n)]) (v := .agg #[v1, .int .i64 sT.n]) F rfl rfl (by obtain ⟨_, _, hv⟩ := Sx.len_of (k := sT.l.length) (v := v1) (Sx.rowEq (H.row 0 _ rfl rfl) rfl rfl rfl rfl rfl); rw [hv]; kernel_rfl)) ?_
      rintro xv w' ⟨hx, rfl⟩
      exact ⟨(fun cv hc => by have h := Option.some.inj hc; cases h), ⟨v1, g1, (fun h => (Sx.put_ne rfl _).trans (p4 h)), (fun _ => (Sx.put_same F (by decide) _).trans hx), (fun h => absurd (show L 10 = true from h) (by rw [f10]; decide)), (fun h => absurd (show L 11 = true from h) (by rw [f11]; decide)), (by show Sx.Own _ _ _ _; rw [show Inv.add L 9 4 = true from t4, show Inv.add L 9 10 = false from f10]; exact H)⟩⟩
    · show Sx.StepAt _ _ _ _ _ _ _ 10
      intro L A w up hun hd F ⟨v1, g1, p4, p9, p10, p11, H⟩
      have t4 : L 4 = true := by
        cases hb : L 4 with
        | true => rfl
        | false =>
          have hb9 := up 9 4 rfl hb
          rw [hd 9 rfl] at hb9; cases hb9
      have t9 : L 9 = true := hd 9 rfl
      have f10 : L 10 = false := hun
      have f11 : L 11 = false := up 11 10 rfl hun
      rw [t4, f10] at H
      have F := Sx.Fr.to F (kv' := []) trivial
      have F := Sx.Fr.add F (p4 t4)
      have F := Sx.Fr.add F (p9 t9)
      refine Sx.step_on rfl (Sx.d_box_at 0 F H rfl rfl [v1, .int .i64 sT.n] rfl) ?_
      rintro xv w' ⟨g', hx, H⟩
      exact ⟨(fun cv hc => by have h := Option.some.inj hc; cases h), ⟨v1, g', (fun h => (Sx.put_ne rfl _).trans (p4 h)), (fun h => (Sx.put_ne rfl _).trans (p9 h)), (fun _ => (Sx.put_same F (by decide) _).trans hx), (fun h => absurd (show L 11 = true from h) (by rw [f11]; decide)), (by show Sx.Own _ _ _ _; rw [show Inv.add L 10 4 = true from t4]; exact H)⟩⟩
    · show Sx.StepAt _ _ _ _ _ _ _ 11
      intro L A w up hun hd F ⟨v1, g1, p4, p9, p10, p11, H⟩
      have t4 : L 4 = true := hd 4 rfl
      have t9 : L 9 = true := hd 9 rfl
      have t10 : L 10 = true := hd 10 rfl
      have f11 : L 11 = false := hun
      rw [t4, t10] at H
      have F := Sx.Fr.to F (kv' := []) trivial
      have F := Sx.Fr.add F (p4 t4)
      have F := Sx.Fr.add F (p9 t9)
      have F := Sx.Fr.add F (p10 t10)
      refine Sx.step_on rfl (Sx.d_move F (Or.inr rfl) rfl) ?_
      rintro xv w' ⟨hx, rfl⟩
      exact ⟨(fun cv hc => by have h := Option.some.inj hc; cases h), ⟨v1, g1, (fun h => (Sx.put_ne rfl _).trans (p4 h)), (fun h => (Sx.put_ne rfl _).trans (p9 h)), (fun h => (Sx.put_ne rfl _).trans (p10 h)), (fun _ => (Sx.put_same F (by decide) _).trans hx), (by show Sx.Own _ _ _ _; rw [show Inv.add L 11 4 = true from t4, show Inv.add L 11 10 = true from t10]; exact H)⟩⟩
  · intro L A w hL F ⟨v1, g1, p4, p9, p10, p11, H⟩
    have t4 : L 4 = true := hL 4 rfl
    have t9 : L 9 = true := hL 9 rfl
    have t10 : L 10 = true := hL 10 rfl
    have t11 : L 11 = true := hL 11 rfl
    rw [t4, t10] at H
    have F := Sx.Fr.add F (p4 t4)
    have F := Sx.Fr.add F (p9 t9)
    have F := Sx.Fr.add F (p10 t10)
    have F := Sx.Fr.add F (p11 t11)
    have F := Sx.Fr.to F (kv' := [(0, .pointer (some ⟨tb, 0, none⟩)), (1, .func (.func f) #[] #[]), (4, .pointer none), (5, .pointer (some ⟨g1, 0, none⟩))]) ⟨rfl, rfl, rfl, rfl, trivial⟩
    refine hK2 _ _ ?_
    refine Sx.seq (fun K3 hK3 => ?_)
    refine Sx.seq (fun K4 hK4 => ?_)
    refine Sx.plain ?_
    refine Sx.sv F (Sx.d_move F (Or.inl rfl) rfl) (Sx.wanted_none rfl _) rfl (by decide) (fun A F => ?_)
    refine Sx.sv F (Sx.d_nil F rfl rfl) (Sx.wanted_none rfl _) rfl (by decide) (fun A F => ?_)
    refine Sx.sv F (Sx.d_faddr (v := .pointer (some ⟨g1, 0, none⟩)) F rfl rfl (fa_101_0 _ 0 _)) (Sx.wanted_none rfl _) rfl (by decide) (fun A F => ?_)
    refine Sx.sv F (Sx.d_load1 (i := 0) (v := v1) one_99 F H rfl rfl rfl rfl) (Sx.wanted_none rfl _) rfl (by decide) (fun A F => ?_)
    refine Sx.sv F (Sx.d_len (i := 0) el_99 F H rfl rfl rfl) (Sx.wanted_none rfl _) rfl (by decide) (fun A F => ?_)
    refine Sx.sv F (Sx.d_move F (Or.inl rfl) rfl) (Sx.wanted_none rfl _) rfl (by decide) (fun A F => ?_)
    refine Sx.nil ?_
    refine hK4 _ _ ?_
    refine wp_block ?_
    refine Sx.loop (fun q A w => ∃ i : Nat, q = sT.l.length - i ∧ i ≤ sT.l.length ∧ Sx.Fr 45 A [(1, .func (.func f) #[] #[]), (5, .pointer (some ⟨g1, 0, none⟩)), (22, .int .i64 sT.l.length), (23, .int .i64 i)] ∧ Sx.Own w0 w [(true, g1, [v1, .int .i64 sT.n])] [⟨true, v1, 107, 2, sT.l.length, (Tb.cells (Tb.upto gf sT.l i))⟩]) sT.l.length ⟨0, rfl, Nat.zero_le _, F.to ⟨rfl, rfl, rfl, rfl, trivial⟩, H.to' [0] [0] (by decide) (by decide) rfl rfl⟩ ?_
    rintro q A w ⟨i, rfl, hi, F, H⟩
    have hfew := hok.few
    by_cases hlt : i < sT.l.length
    · obtain ⟨r, hr⟩ : ∃ r, sT.l[i]? = some r := ⟨_, List.getElem?_eq_getElem hlt⟩
      have Fcur := F
      have Hcur := H
      obtain ⟨lg, lc, rfl, hc1', hc2'⟩ := Hcur.open (i := 0) rfl (by omega)
      have F := Fcur
      have H := Hcur
      refine Sx.seq (fun K5 hK5 => ?_)
      refine Sx.plain ?_
      refine Sx.sv F (Sx.d_bin (v := .bool true) F rfl rfl rfl (Sx.i_lt (decide_eq_true (by omega)))) (Sx.wanted_none rfl _) rfl (by decide) (fun A F => ?_)
      refine Sx.nil ?_
      refine hK5 _ _ ?_
      refine Sx.seq (fun K6 hK6 => ?_)
      refine Sx.condT F rfl ?_
      refine wp_skip ?_
      refine hK6 _ _ ?_
      refine Sx.seq (fun K7 hK7 => ?_)
      refine wp_block ?_
      refine Sx.seq (fun K8 hK8 => ?_)
      refine Sx.plain ?_
      refine Sx.sv F (Sx.d_move F (Or.inl rfl) rfl) (Sx.wanted_none rfl _) rfl (by decide) (fun A F => ?_)
      refine Sx.sv F (Sx.d_move F (Or.inr rfl) rfl) (Sx.wanted_none rfl _) rfl (by decide) (fun A F => ?_)
      refine Sx.nil ?_
      refine hK8 _ _ ?_
      have F := Sx.Fr.to F (kv' := [(1, .func (.func f) #[] #[]), (5, .pointer (some ⟨g1, 0, none⟩)), (22, .int .i64 sT.l.length), (23, .int .i64 i), (24, .bool true), (25, .int .i64 i), (6, .int .i64 i)]) ⟨rfl, rfl, rfl, rfl, rfl, rfl, rfl, trivial⟩
      refine Sx.drawn F (by kernel_rfl) (by kernel_rfl) (by kernel_rfl) [some (.pointer (some ⟨g1, 0, none⟩)), some (.pointer (some ⟨g1, 0, none⟩)), some (.pointer (some ⟨g1, 0, none⟩)), some (.slice (some ⟨lg, 0, none⟩) sT.l.length lc), some (.int .i64 i), some (.func (.func f) #[] #[]), some (.pointer (some ⟨g1, 0, none⟩)), some (.pointer (some ⟨g1, 0, none⟩)), some (.pointer (some ⟨g1, 0, none⟩)), some (.slice (some ⟨lg, 0, none⟩) sT.l.length lc), some (.int .i64 i), some (.pointer (some ⟨lg, i * 2, none⟩)), some (.pointer (some ⟨lg, i * 2 + 1, none⟩)), some (.int .u64 r.2.toNat), some (.int .u64 ((gf r.2).toNat)), some (.pointer (some ⟨lg, i * 2, none⟩)), some (.pointer (some ⟨lg, i * 2 + 1, none⟩)), none] (fun L A w => Sx.Own w0 w [(true, g1, [.slice (some ⟨lg, 0, none⟩) sT.l.length lc, .int .i64 sT.n])] [(cond (L 17) (⟨true, .slice (some ⟨lg, 0, none⟩) sT.l.length lc, 107, 2, sT.l.length, (Tb.cells (Tb.upto gf sT.l (i + 1)))⟩ : Sx.Rx) ⟨true, .slice (some ⟨lg, 0, none⟩) sT.l.length lc, 107, 2, sT.l.length, (Tb.cells (Tb.upto gf sT.l i))⟩)]) H.drew ?_ ?_
      · refine ⟨?_, ?_, ?_, ?_, ?_, ?_, ?_, ?_, ?_, ?_, ?_, ?_, ?_, ?_, ?_, ?_, ?_, ?_, trivial⟩
        · show Sx.StepAt _ _ _ _ _ _ _ 0
          intro L A w up hun hd F H
          have f17 : L 17 = false := up 17 0 rfl hun
          rw [f17] at H
          have F := Sx.Fr.to F (kv' := [(5, .pointer (some ⟨g1, 0, none⟩))]) ⟨rfl, trivial⟩
          refine Sx.step_on rfl (Sx.d_move F (Or.inl rfl) rfl) ?_
          rintro xv w' ⟨hx, rfl⟩
          exact ⟨(fun cv hc => hx.trans (Option.some.inj (Option.some.inj hc))), (by show Sx.Own _ _ _ _; rw [show Inv.add L 0 17 = false from f17]; exact H)⟩
        · show Sx.StepAt _ _ _ _ _ _ _ 1
          intro L A w up hun hd F H
          have f17 : L 17 = false := up 17 1 rfl hun
          rw [f17] at H
          have F := Sx.Fr.to F (kv' := [(26, .pointer (some ⟨g1, 0, none⟩))]) ⟨rfl, trivial⟩
          refine Sx.step_on rfl (Sx.d_nil F rfl rfl) ?_
          rintro xv w' ⟨hx, rfl⟩
          exact ⟨(fun cv hc => hx.trans (Option.some.inj (Option.some.inj hc))), (by show Sx.Own _ _ _ _; rw [show Inv.add L 1 17 = false from f17]; exact H)⟩
        · show Sx.StepAt _ _ _ _ _ _ _ 2
          intro L A w up hun hd F H
          have f17 : L 17 = false := up 17 2 rfl hun
          rw [f17] at H
          have F := Sx.Fr.to F (kv' := [(27, .pointer (some ⟨g1, 0, none⟩))]) ⟨rfl, trivial⟩
          refine Sx.step_on rfl (Sx.d_faddr (v := .pointer (some ⟨g1, 0, none⟩)) F rfl rfl (fa_101_0 _ 0 _)) ?_
          rintro xv w' ⟨hx, rfl⟩
          exact ⟨(fun cv hc => hx.trans (Option.some.inj (Option.some.inj hc))), (by show Sx.Own _ _ _ _; rw [show Inv.add L 2 17 = false from f17]; exact H)⟩
        · show Sx.StepAt _ _ _ _ _ _ _ 3
          intro L A w up hun hd F H
          have f17 : L 17 = false := up 17 3 rfl hun
          rw [f17] at H
          have F := Sx.Fr.to F (kv' := [(28, .pointer (some ⟨g1, 0, none⟩))]) ⟨rfl, trivial⟩
          refine Sx.step_on rfl (Sx.d_load1 (i := 0) (v := .slice (some ⟨lg, 0, none⟩) sT.l.length lc) one_99 F H rfl rfl rfl rfl) ?_
          rintro xv w' ⟨hx, rfl⟩
          exact ⟨(fun cv hc => hx.trans (Option.some.inj (Option.some.inj hc))), (by show Sx.Own _ _ _ _; rw [show Inv.add L 3 17 = false from f17]; exact H)⟩
        · show Sx.StepAt _ _ _ _ _ _ _ 4
          intro L A w up hun hd F H
          have f17 : L 17 = false := up 17 4 rfl hun
          rw [f17] at H
          have F := Sx.Fr.to F (kv' := [(6, .int .i64 i)]) ⟨rfl, trivial⟩
          refine Sx.step_on rfl (Sx.d_move F (Or.inl rfl) rfl) ?_
          rintro xv w' ⟨hx, rfl⟩
          exact ⟨(fun cv hc => hx.trans (Option.some.inj (Option.some.inj hc))), (by show Sx.Own _ _ _ _; rw [show Inv.add L 4 17 = false from f17]; exact H)⟩
        · show Sx.StepAt _ _ _ _ _ _ _ 5
          intro L A w up hun hd F H
          have f17 : L 17 = false := up 17 5 rfl hun
          rw [f17] at H
          have F := Sx.Fr.to F (kv' := [(1, .func (.func f) #[] #[])]) ⟨rfl, trivial⟩
          refine Sx.step_on rfl (Sx.d_move F (Or.inl rfl) rfl) ?_
          rintro xv w' ⟨hx, rfl⟩
          exact ⟨(fun cv hc => hx.trans (Option.some.inj (Option.some.inj hc))), (by show Sx.Own _ _ _ _; rw [show Inv.add L 5 17 = false from f17]; exact H)⟩
        · show Sx.StepAt _ _ _ _ _ _ _ 6
          intro L A w up hun hd F H
          have f17 : L 17 = false := up 17 6 rfl hun
          rw [f17] at H
          have F := Sx.Fr.to F (kv' := [(5, .pointer (some ⟨g1, 0, none⟩))]) ⟨rfl, trivial⟩
          refine Sx.step_on rfl (Sx.d_move F (Or.inl rfl) rfl) ?_
          rintro xv w' ⟨hx, rfl⟩
          exact ⟨(fun cv hc => hx.trans (Option.some.inj (Option.some.inj hc))), (by show Sx.Own _ _ _ _; rw [show Inv.add L 6 17 = false from f17]; exact H)⟩
        · show Sx.StepAt _ _ _ _ _ _ _ 7
          intro L A w up hun hd F H
          have f17 : L 17 = false := up 17 7 rfl hun
          rw [f17] at H
          have F := Sx.Fr.to F (kv' := [(32, .pointer (some ⟨g1, 0, none⟩))]) ⟨rfl, trivial⟩
          refine Sx.step_on rfl (Sx.d_nil F rfl rfl) ?_
          rintro xv w' ⟨hx, rfl⟩
          exact ⟨(fun cv hc => hx.trans (Option.some.inj (Option.some.inj hc))), (by show Sx.Own _ _ _ _; rw [show Inv.add L 7 17 = false from f17]; exact H)⟩
        · show Sx.StepAt _ _ _ _ _ _ _ 8
          intro L A w up hun hd F H
          have f17 : L 17 = false := up 17 8 rfl hun
          rw [f17] at H
          have F := Sx.Fr.to F (kv' := [(33, .pointer (some ⟨g1, 0, none⟩))]) ⟨rfl, trivial⟩
          refine Sx.step_on rfl (Sx.d_faddr (v := .pointer (some ⟨g1, 0, none⟩)) F rfl rfl (fa_101_0 _ 0 _)) ?_
          rintro xv w' ⟨hx, rfl⟩
          exact ⟨(fun cv hc => hx.trans (Option.some.inj (Option.some.inj hc))), (by show Sx.Own _ _ _ _; rw [show Inv.add L 8 17 = false from f17]; exact H)⟩
        · show Sx.StepAt _ _ _ _ _ _ _ 9
          intro L A w up hun hd F H
          have f17 : L 17 = false := up 17 9 rfl hun
          rw [f17] at H
          have F := Sx.Fr.to F (kv' := [(34, .pointer (some ⟨g1, 0, none⟩))]) ⟨rfl, trivial⟩
          refine Sx.step_on rfl (Sx.d_load1 (i := 0) (v := .slice (some ⟨lg, 0, none⟩) sT.l.length lc) one_99 F H rfl rfl rfl rfl) ?_
          rintro xv w' ⟨hx, rfl⟩
          exact ⟨(fun cv hc => hx.trans (Option.some.inj (Option.some.inj hc))), (by show Sx.Own _ _ _ _; rw [show Inv.add L 9 17 = false from f17]; exact H)⟩
        · show Sx.StepAt _ _ _ _ _ _ _ 10
          intro L A w up hun hd F H
          have f17 : L 17 = false := up 17 10 rfl hun
          rw [f17] at H
          have F := Sx.Fr.to F (kv' := [(6, .int .i64 i)]) ⟨rfl, trivial⟩
          refine Sx.step_on rfl (Sx.d_move F (Or.inl rfl) rfl) ?_
          rintro xv w' ⟨hx, rfl⟩
          exact ⟨(fun cv hc => hx.trans (Option.some.inj (Option.some.inj hc))), (by show Sx.Own _ _ _ _; rw [show Inv.add L 10 17 = false from f17]; exact H)⟩
        · show Sx.StepAt _ _ _ _ _ _ _ 11
          intro L A w up hun hd F H
          have f17 : L 17 = false := up 17 11 rfl hun
          rw [f17] at H
          have F := Sx.Fr.to F (kv' := [(35, .slice (some ⟨lg, 0, none⟩) sT.l.length lc), (36, .int .i64 i)]) ⟨rfl, rfl, trivial⟩
          refine Sx.step_on rfl (Sx.d_ixRZ (k := i) (z := 2) el_99 F rfl rfl rfl (rfl) (by omega)) ?_
          rintro xv w' ⟨hx, rfl⟩
          exact ⟨(fun cv hc => hx.trans (Option.some.inj (Option.some.inj hc))), (by show Sx.Own _ _ _ _; rw [show Inv.add L 11 17 = false from f17]; exact H)⟩
        · show Sx.StepAt _ _ _ _ _ _ _ 12
          intro L A w up hun hd F H
          have f17 : L 17 = false := up 17 12 rfl hun
          rw [f17] at H
          have F := Sx.Fr.to F (kv' := [(37, .pointer (some ⟨lg, i * 2, none⟩))]) ⟨rfl, trivial⟩
          refine Sx.step_on rfl (Sx.d_faddr (v := .pointer (some ⟨lg, i * 2 + 1, none⟩)) F rfl rfl (fa_107_1 _ (i * 2) _)) ?_
          rintro xv w' ⟨hx, rfl⟩
          exact ⟨(fun cv hc => hx.trans (Option.some.inj (Option.some.inj hc))), (by show Sx.Own _ _ _ _; rw [show Inv.add L 12 17 = false from f17]; exact H)⟩
        · show Sx.StepAt _ _ _ _ _ _ _ 13
          intro L A w up hun hd F H
          have f17 : L 17 = false := up 17 13 rfl hun
          rw [f17] at H
          have F := Sx.Fr.to F (kv' := [(38, .pointer (some ⟨lg, i * 2 + 1, none⟩))]) ⟨rfl, trivial⟩
          refine Sx.step_on rfl (Sx.d_loadRZ (i := 0) (k := i * 2 + 1) (v := .int .u64 r.2.toNat) one_22 F H rfl rfl rfl ((Tb.cells_at _ i r (Tb.upto_at gf hr)).2)) ?_
          rintro xv w' ⟨hx, rfl⟩
          exact ⟨(fun cv hc => hx.trans (Option.some.inj (Option.some.inj hc))), (by show Sx.Own _ _ _ _; rw [show Inv.add L 13 17 = false from f17]; exact H)⟩
        · show Sx.StepAt _ _ _ _ _ _ _ 14
          intro L A w up hun hd F H
          have f17 : L 17 = false := up 17 14 rfl hun
          rw [f17] at H
          have F := Sx.Fr.to F (kv' := [(31, .func (.func f) #[] #[]), (39, .int .u64 r.2.toNat)]) ⟨rfl, rfl, trivial⟩
          refine Sx.step_on rfl (Sx.d_callV (vs := [.int .u64 r.2.toNat]) (v := .int .u64 ((gf r.2).toNat)) hf F H rfl rfl rfl (hg r.2 _)) ?_
          rintro xv w' ⟨hx, H⟩
          exact ⟨(fun cv hc => hx.trans (Option.some.inj (Option.some.inj hc))), (by show Sx.Own _ _ _ _; rw [show Inv.add L 14 17 = false from f17]; exact H)⟩
        · show Sx.StepAt _ _ _ _ _ _ _ 15
          intro L A w up hun hd F H
          have f16 : L 16 = false := up 16 15 rfl hun
          have f17 : L 17 = false := up 17 16 rfl f16
          rw [f17] at H
          have F := Sx.Fr.to F (kv' := [(29, .slice (some ⟨lg, 0, none⟩) sT.l.length lc), (30, .int .i64 i)]) ⟨rfl, rfl, trivial⟩
          refine Sx.step_on rfl (Sx.d_ixRZ (k := i) (z := 2) el_99 F rfl rfl rfl (rfl) (by omega)) ?_
          rintro xv w' ⟨hx, rfl⟩
          exact ⟨(fun cv hc => hx.trans (Option.some.inj (Option.some.inj hc))), (by show Sx.Own _ _ _ _; rw [show Inv.add L 15 17 = false from f17]; exact H)⟩
        · show Sx.StepAt _ _ _ _ _ _ _ 16
          intro L A w up hun hd F H
          have f17 : L 17 = false := up 17 16 rfl hun
          rw [f17] at H
          have F := Sx.Fr.to F (kv' := [(41, .pointer (some ⟨lg, i * 2, none⟩))]) ⟨rfl, trivial⟩
          refine Sx.step_on rfl (Sx.d_faddr (v := .pointer (some ⟨lg, i * 2 + 1, none⟩)) F rfl rfl (fa_107_1 _ (i * 2) _)) ?_
          rintro xv w' ⟨hx, rfl⟩
          exact ⟨(fun cv hc => hx.trans (Option.some.inj (Option.some.inj hc))), (by show Sx.Own _ _ _ _; rw [show Inv.add L 16 17 = false from f17]; exact H)⟩
        · show Sx.StepAt _ _ _ _ _ _ _ 17
          intro L A w up hun hd F H
          have f17 : L 17 = false := hun
          rw [f17] at H
          have F := Sx.Fr.to F (kv' := [(42, .pointer (some ⟨lg, i * 2 + 1, none⟩)), (40, .int .u64 ((gf r.2).toNat))]) ⟨rfl, rfl, trivial⟩
          refine Sx.step_on rfl (Sx.d_storeRZ (i := 0) (k := i * 2 + 1) (m := sT.l.length) (z := 2) (ys := (Tb.cells (Tb.upto gf sT.l (i + 1)))) sz_22 F H rfl rfl rfl rfl rfl rfl (by omega) (Tb.upto_set gf hr)) ?_
          intro xv w' H
          exact ⟨(fun cv hc => by have h := Option.some.inj hc; cases h), H⟩
      · intro L A w hL F H
        have t17 : L 17 = true := hL 17 rfl
        rw [t17] at H
        have F := Sx.Fr.to F (kv' := [(1, .func (.func f) #[] #[]), (5, .pointer (some ⟨g1, 0, none⟩)), (22, .int .i64 sT.l.length), (23, .int .i64 i), (24, .bool true), (25, .int .i64 i), (6, .int .i64 i)]) ⟨rfl, rfl, rfl, rfl, rfl, rfl, rfl, trivial⟩
        refine hK7 _ _ ?_
        refine Sx.plain ?_
        refine Sx.sv F (Sx.d_bin (v := .int .i64 (i + 1 : Nat)) F rfl rfl rfl (Sx.i_addN rfl (Sx.in_i64 _ (by omega)))) (Sx.wanted_none rfl _) rfl (by decide) (fun A F => ?_)
        refine Sx.sv F (Sx.d_move F (Or.inl rfl) rfl) (Sx.wanted_none rfl _) rfl (by decide) (fun A F => ?_)
        refine Sx.nil ?_
        try dsimp only [Exit.then]
        exact ⟨sT.l.length - (i + 1), by omega, i + 1, rfl, by omega, F.to ⟨rfl, rfl, rfl, rfl, trivial⟩, H⟩
    · have hie : i = sT.l.length := by omega
      rw [hie] at F H
      rw [Tb.upto_all] at H
      refine Sx.seq (fun K9 hK9 => ?_)
      refine Sx.plain ?_
      refine Sx.sv F (Sx.d_bin (v := .bool false) F rfl rfl rfl (Sx.i_lt (by simp))) (Sx.wanted_none rfl _) rfl (by decide) (fun A F => ?_)
      refine Sx.nil ?_
      refine hK9 _ _ ?_
      refine Sx.seq (fun K10 hK10 => ?_)
      refine Sx.condF F rfl ?_
      refine wp_exit ?_
      try dsimp only [Exit.then, Exit.jump]
      refine Sx.exit_here ?_
      refine hK3 _ _ ?_
      refine Sx.seq (fun K11 hK11 => ?_)
      refine Sx.plain ?_
      refine Sx.sv F (Sx.d_move F (Or.inl rfl) rfl) (Sx.wanted_none rfl _) rfl (by decide) (fun A F => ?_)
      refine Sx.sv F (Sx.d_move F (Or.inr rfl) rfl) (Sx.wanted_none rfl _) rfl (by decide) (fun A F => ?_)
      refine Sx.nil ?_
      refine hK11 _ _ ?_
      refine wp_ret ?_
      try dsimp only [Exit.then, Exit.inBlock, Exit.jump]
      refine Sx.ret1 F Try.results50 (Sx.res_tmp (v := .pointer (some ⟨g1, 0, none⟩)) F rfl) ?_
      have hml : (Tb.S.map sT gf).l.length = sT.l.length := List.length_map ..
      rw [hml]
      exact ⟨_, _, rfl, H⟩
theorem tcopy_c (sT : Tb.S) (hok : sT.ok) (f : FuncId) (gf : BitVec 64 → BitVec 64) (hf : Sx.isFn Try.prog f) (hg : ∀ (x : BitVec 64) (w : World), Calls Try.prog f #[.int .u64 x.toNat] w fun e w' => e = .returned (.int .u64 (gf x).toNat) ∧ Below w.heap.size w w') (tb : Nat) (w0 : World) (hs : Tb.See w0 tb sT) : Calls Try.prog 50 #[.pointer (some ⟨tb, 0, none⟩), .func (.func f) #[] #[]] w0 fun e w' => ∃ g v, e = .returned (.pointer (some ⟨g, 0, none⟩)) ∧ Sx.Own w0 w' [(true, g, [v, .int .i64 (Tb.S.map sT gf).n])] [⟨true, v, 107, 2, (Tb.S.map sT gf).l.length, Tb.cells (Tb.S.map sT gf).l⟩] := by
  obtain ⟨v, hc0, hc1, ada, capa, rfl, hca⟩ := hs
  exact tcopy_s sT hok f gf hf hg tb w0 ada capa hc0 hc1 hca
set_option maxRecDepth 100000 in
theorem ints_s (l : List Int) (hl : l.length ≤ 1000000) (ada adb : Option Addr) (capa capb : Nat) (w0 : World) (hca : ∀ k, k < l.length → ∃ g o, ada = some ⟨g, o, none⟩ ∧ w0.cell? ⟨g, o + k, none⟩ = some (.int .i64 (l.getD k 0))) (hcb : ∀ k, k < l.length → ∃ g o, adb = some ⟨g, o, none⟩ ∧ w0.cell? ⟨g, o + k, none⟩ = some (.int .i64 (l.getD k 0))) : Calls Try.prog 46 #[.slice ada l.length capa, .slice adb l.length capb] w0 fun e w' => e = .returned (.bool true) ∧ Below w0.heap.size w0 w' := by
  refine Sx.enter (args := [.slice ada l.length capa, .slice adb l.length capb]) Try.func46 rfl Try.ntmps46 (Nat.le_of_ble_eq_true rfl) (fun A F => ?_)
  have H := Sx.Own.start w0
  refine Sx.seq (fun K1 hK1 => ?_)
  refine Sx.plain ?_
  refine Sx.sv F (Sx.d_move F (Or.inr rfl) rfl) (Sx.wanted_none rfl _) rfl (by decide) (fun A F => ?_)
  refine Sx.nil ?_
  refine hK1 _ _ ?_
  refine Sx.seq (fun K2 hK2 => ?_)
  refine Sx.seq (fun K3 hK3 => ?_)
  refine Sx.plain ?_
  refine Sx.sv F (Sx.d_move F (Or.inl rfl) rfl) (Sx.wanted_none rfl _) rfl (by decide) (fun A F => ?_)
  refine Sx.sv F (Sx.d_lenS el_77 F rfl rfl) (Sx.wanted_none rfl _) rfl (by decide) (fun A F => ?_)
  refine Sx.sv F (Sx.d_move F (Or.inl rfl) rfl) (Sx.wanted_none rfl _) rfl (by decide) (fun A F => ?_)
  refine Sx.sv F (Sx.d_lenS el_77 F rfl rfl) (Sx.wanted_none rfl _) rfl (by decide) (fun A F => ?_)
  refine Sx.sv F (Sx.d_bin (v := .bool false) F rfl rfl rfl (Sx.i_ne (by simp))) (Sx.wanted_none rfl _) rfl (by decide) (fun A F => ?_)
  refine Sx.nil ?_
  refine hK3 _ _ ?_
  refine Sx.condF F rfl ?_
  refine wp_skip ?_
  refine hK2 _ _ ?_
  refine Sx.seq (fun K4 hK4 => ?_)
  refine Sx.seq (fun K5 hK5 => ?_)
  refine Sx.plain ?_
  refine Sx.sv F (Sx.d_move F (Or.inr rfl) rfl) (Sx.wanted_none rfl _) rfl (by decide) (fun A F => ?_)
  refine Sx.nil ?_
  refine hK5 _ _ ?_
  refine wp_block ?_
  refine Sx.loop (fun q A w => ∃ i : Nat, q = l.length - i ∧ i ≤ l.length ∧ Sx.Fr 26 A [(0, .slice ada l.length capa), (1, .slice adb l.length capb), (5, .int .i64 i)] ∧ Sx.Own w0 w [] []) l.length ⟨0, rfl, Nat.zero_le _, F.to ⟨rfl, rfl, rfl, trivial⟩, H⟩ ?_
  rintro q A w ⟨i, rfl, hi, F, H⟩
  by_cases hlt : i < l.length
  · obtain ⟨ga, oa, hada, hcella⟩ := hca _ hlt
    obtain ⟨gb, ob, hadb, hcellb⟩ := hcb _ hlt
    refine Sx.seq (fun K6 hK6 => ?_)
    refine Sx.seq (fun K7 hK7 => ?_)
    refine Sx.plain ?_
    refine Sx.sv F (Sx.d_move F (Or.inl rfl) rfl) (Sx.wanted_none rfl _) rfl (by decide) (fun A F => ?_)
    refine Sx.sv F (Sx.d_move F (Or.inl rfl) rfl) (Sx.wanted_none rfl _) rfl (by decide) (fun A F => ?_)
    refine Sx.sv F (Sx.d_lenS el_77 F rfl rfl) (Sx.wanted_none rfl _) rfl (by decide) (fun A F => ?_)
    refine Sx.sv F (Sx.d_bin (v := .bool true) F rfl rfl rfl (Sx.i_lt (decide_eq_true (by omega)))) (Sx.wanted_none rfl _) rfl (by decide) (fun A F => ?_)
    refine Sx.nil ?_
    refine hK7 _ _ ?_
    refine Sx.condT F rfl ?_
    refine wp_skip ?_
    refine hK6 _ _ ?_
    refine Sx.seq (fun K8 hK8 => ?_)
    refine wp_block ?_
    refine Sx.seq (fun K9 hK9 => ?_)
    have F := Sx.Fr.to F (kv' := [(0, .slice ada l.length capa), (1, .slice adb l.length capb), (5, .int .i64 i), (11, .int .i64 i), (12, .slice ada l.length capa), (13, .int .i64 l.length), (14, .bool true)]) ⟨rfl, rfl, rfl, rfl, rfl, rfl, rfl, trivial⟩
    refine Sx.drawn F (by kernel_rfl) (by kernel_rfl) (by kernel_rfl) [some (.slice ada l.length capa), some (.int .i64 i), some (.pointer (some ⟨ga, oa + i, none⟩)), some (.int .i64 (l.getD i 0)), some (.slice adb l.length capb), some (.int .i64 i), some (.pointer (some ⟨gb, ob + i, none⟩)), some (.int .i64 (l.getD i 0)), some (.bool false)] (fun L A w => Sx.Own w0 w [] []) H.drew ?_ ?_
    · refine ⟨?_, ?_, ?_, ?_, ?_, ?_, ?_, ?_, ?_, trivial⟩
      · show Sx.StepAt _ _ _ _ _ _ _ 0
        intro L A w up hun hd F H
        have F := Sx.Fr.to F (kv' := [(0, .slice ada l.length capa)]) ⟨rfl, trivial⟩
        refine Sx.step_on rfl (Sx.d_move F (Or.inl rfl) rfl) ?_
        rintro xv w' ⟨hx, rfl⟩
        exact ⟨(fun cv hc => hx.trans (Option.some.inj (Option.some.inj hc))), H⟩
      · show Sx.StepAt _ _ _ _ _ _ _ 1
        intro L A w up hun hd F H
        have F := Sx.Fr.to F (kv' := [(5, .int .i64 i)]) ⟨rfl, trivial⟩
        refine Sx.step_on rfl (Sx.d_move F (Or.inl rfl) rfl) ?_
        rintro xv w' ⟨hx, rfl⟩
        exact ⟨(fun cv hc => hx.trans (Option.some.inj (Option.some.inj hc))), H⟩
      · show Sx.StepAt _ _ _ _ _ _ _ 2
        intro L A w up hun hd F H
        have F := Sx.Fr.to F (kv' := [(17, .slice ada l.length capa), (18, .int .i64 i)]) ⟨rfl, rfl, trivial⟩
        refine Sx.step_on rfl (Sx.d_ix1 (k := i) (g := ga) (off := oa) el_77 F rfl rfl hada rfl (rfl) (by omega)) ?_
        rintro xv w' ⟨hx, rfl⟩
        exact ⟨(fun cv hc => hx.trans (Option.some.inj (Option.some.inj hc))), H⟩
      · show Sx.StepAt _ _ _ _ _ _ _ 3
        intro L A w up hun hd F H
        have F := Sx.Fr.to F (kv' := [(19, .pointer (some ⟨ga, oa + i, none⟩))]) ⟨rfl, trivial⟩
        refine Sx.step_on rfl (Sx.d_loadF one_3 F H rfl rfl hcella) ?_
        rintro xv w' ⟨hx, rfl⟩
        exact ⟨(fun cv hc => hx.trans (Option.some.inj (Option.some.inj hc))), H⟩
      · show Sx.StepAt _ _ _ _ _ _ _ 4
        intro L A w up hun hd F H
        have F := Sx.Fr.to F (kv' := [(1, .slice adb l.length capb)]) ⟨rfl, trivial⟩
        refine Sx.step_on rfl (Sx.d_move F (Or.inl rfl) rfl) ?_
        rintro xv w' ⟨hx, rfl⟩
        exact ⟨(fun cv hc => hx.trans (Option.some.inj (Option.some.inj hc))), H⟩
      · show Sx.StepAt _ _ _ _ _ _ _ 5
        intro L A w up hun hd F H
        have F := Sx.Fr.to F (kv' := [(5, .int .i64 i)]) ⟨rfl, trivial⟩
        refine Sx.step_on rfl (Sx.d_move F (Or.inl rfl) rfl) ?_
        rintro xv w' ⟨hx, rfl⟩
        exact ⟨(fun cv hc => hx.trans (Option.some.inj (Option.some.inj hc))), H⟩
      · show Sx.StepAt _ _ _ _ _ _ _ 6
        intro L A w up hun hd F H
        have F := Sx.Fr.to F (kv' := [(21, .slice adb l.length capb), (22, .int .i64 i)]) ⟨rfl, rfl, trivial⟩
        refine Sx.step_on rfl (Sx.d_ix1 (k := i) (g := gb) (off := ob) el_77 F rfl rfl hadb rfl (rfl) (by omega)) ?_
        rintro xv w' ⟨hx, rfl⟩
        exact ⟨(fun cv hc => hx.trans (Option.some.inj (Option.some.inj hc))), H⟩
      · show Sx.StepAt _ _ _ _ _ _ _ 7
        intro L A w up hun hd F H
        have F := Sx.Fr.to F (kv' := [(23, .pointer (some ⟨gb, ob + i, none⟩))]) ⟨rfl, trivial⟩
        refine Sx.step_on rfl (Sx.d_loadF one_3 F H rfl rfl hcellb) ?_
        rintro xv w' ⟨hx, rfl⟩
        exact ⟨(fun cv hc => hx.trans (Option.some.inj (Option.some.inj hc))), H⟩
      · show Sx.StepAt _ _ _ _ _ _ _ 8
        intro L A w up hun hd F H
        have F := Sx.Fr.to F (kv' := [(20, .int .i64 (l.getD i 0)), (24, .int .i64 (l.getD i 0))]) ⟨rfl, rfl, trivial⟩
        refine Sx.step_on rfl (Sx.d_bin (v := .bool false) F rfl rfl rfl (Sx.i_ne (by simp))) ?_
        rintro xv w' ⟨hx, rfl⟩
        exact ⟨(fun cv hc => hx.trans (Option.some.inj (Option.some.inj hc))), H⟩
    · intro L A w hL F H
      have F := Sx.Fr.to F (kv' := [(0, .slice ada l.length capa), (1, .slice adb l.length capb), (5, .int .i64 i), (11, .int .i64 i), (12, .slice ada l.length capa), (13, .int .i64 l.length), (14, .bool true), (25, .bool false)]) ⟨rfl, rfl, rfl, rfl, rfl, rfl, rfl, rfl, trivial⟩
      refine hK9 _ _ ?_
      refine Sx.condF F rfl ?_
      refine wp_skip ?_
      refine hK8 _ _ ?_
      refine Sx.plain ?_
      refine Sx.sv F (Sx.d_move F (Or.inl rfl) rfl) (Sx.wanted_none rfl _) rfl (by decide) (fun A F => ?_)
      refine Sx.sv F (Sx.d_bin (v := .int .i64 (i + 1 : Nat)) F rfl rfl rfl (Sx.i_addN rfl (Sx.in_i64 _ (by omega)))) (Sx.wanted_none rfl _) rfl (by decide) (fun A F => ?_)
      refine Sx.sv F (Sx.d_move F (Or.inr rfl) rfl) (Sx.wanted_none rfl _) rfl (by decide) (fun A F => ?_)
      refine Sx.nil ?_
      try dsimp only [Exit.then]
      exact ⟨l.length - (i + 1), by omega, i + 1, rfl, by omega, F.to ⟨rfl, rfl, rfl, trivial⟩, H⟩
  · have hie : i = l.length := by omega
    rw [hie] at F
    refine Sx.seq (fun K10 hK10 => ?_)
    refine Sx.seq (fun K11 hK11 => ?_)
    refine Sx.plain ?_
    refine Sx.sv F (Sx.d_move F (Or.inl rfl) rfl) (Sx.wanted_none rfl _) rfl (by decide) (fun A F => ?_)
    refine Sx.sv F (Sx.d_move F (Or.inl rfl) rfl) (Sx.wanted_none rfl _) rfl (by decide) (fun A F => ?_)
    refine Sx.sv F (Sx.d_lenS el_77 F rfl rfl) (Sx.wanted_none rfl _) rfl (by decide) (fun A F => ?_)
    refine Sx.sv F (Sx.d_bin (v := .bool false) F rfl rfl rfl (Sx.i_lt (by simp))) (Sx.wanted_none rfl _) rfl (by decide) (fun A F => ?_)
    refine Sx.nil ?_
    refine hK11 _ _ ?_
    refine Sx.condF F rfl ?_
    refine wp_exit ?_
    try dsimp only [Exit.then, Exit.jump]
    refine Sx.exit_here ?_
    refine hK4 _ _ ?_
    refine Sx.seq (fun K12 hK12 => ?_)
    refine Sx.plain ?_
    refine Sx.sv F (Sx.d_move F (Or.inr rfl) rfl) (Sx.wanted_none rfl _) rfl (by decide) (fun A F => ?_)
    refine Sx.nil ?_
    refine hK12 _ _ ?_
    refine wp_ret ?_
    try dsimp only [Exit.then, Exit.inBlock, Exit.jump]
    refine Sx.ret1 F Try.results46 (Sx.res_tmp (v := .bool true) F rfl) ⟨?_, H.below⟩
    rfl
theorem ints_c (l : List Int) (va vb : Value) (w : World) (ha : Tb.RdI w va l) (hb : Tb.RdI w vb l) : Calls Try.prog 46 #[va, vb] w fun e w' => e = .returned (.bool true) ∧ Below w.heap.size w w' := by
  obtain ⟨hl, ada, capa, rfl, hca⟩ := ha
  obtain ⟨_, adb, capb, rfl, hcb⟩ := hb
  exact ints_s l hl ada adb capa capb w hca hcb
end Go.Proofs.Ytpbdffmgendboab
