/- A row that goes out of a table; an act. -/
import Derived.Test.YtpbdffmgendboabTc
namespace Go.Proofs.Ytpbdffmgendboab
open Go Go.RowKit
set_option maxRecDepth 100000 in
theorem delete_c (l : List Tb.R) (few : l.length ≤ 16) (i : Nat) (hi : i < l.length) (g cap : Nat) (hkc : l.length ≤ cap) (w0 w : World) (bs : List Sx.Bx) (rs : List Sx.Rx) {K : Nat → Option Obj}  (H : Sx.Own w0 w (bs) (⟨true, .slice (some ⟨g, 0, none⟩) l.length cap, 107, 2, l.length, (Tb.cells l)⟩ :: rs) K) : Calls Try.prog 72 #[.slice (some ⟨g, 0, none⟩) l.length cap, .int .i64 i, .int .i64 (i + 1 : Nat)] w fun e w' => e = .returned (.slice (some ⟨g, 0, none⟩) (l.length - 1) cap) ∧ Sx.Own w0 w' bs (⟨true, .slice (some ⟨g, 0, none⟩) (l.length - 1) cap, 107, 2, (l.length - 1), (Tb.cells (l.take i ++ l.drop (i + 1)))⟩ :: rs) K := by
  refine Sx.enter (args := [.slice (some ⟨g, 0, none⟩) l.length cap, .int .i64 i, .int .i64 (i + 1 : Nat)]) Try.func72 rfl Try.ntmps72 (Nat.le_of_ble_eq_true rfl) (fun A F => ?_)
  refine Sx.seq (fun K1 hK1 => ?_)
  refine Sx.plain ?_
  refine Sx.sv F (Sx.d_move F (Or.inr rfl) rfl) (Sx.wanted_none rfl _) rfl (by decide) (fun A F => ?_)
  refine Sx.nil ?_
  refine hK1 _ _ ?_
  refine Sx.seq (fun K2 hK2 => ?_)
  refine Sx.plain ?_
  refine Sx.sv F (Sx.d_move F (Or.inl rfl) rfl) (Sx.wanted_none rfl _) rfl (by decide) (fun A F => ?_)
  refine Sx.sv F (Sx.d_move F (Or.inl rfl) rfl) (Sx.wanted_none rfl _) rfl (by decide) (fun A F => ?_)
  refine Sx.sv F (Sx.d_move F (Or.inl rfl) rfl) (Sx.wanted_none rfl _) rfl (by decide) (fun A F => ?_)
  refine Sx.sv F (Sx.d_move F (Or.inl rfl) rfl) (Sx.wanted_none rfl _) rfl (by decide) (fun A F => ?_)
  refine Sx.sv F (Sx.d_lenS el_99 F rfl rfl) (Sx.wanted_none rfl _) rfl (by decide) (fun A F => ?_)
  refine Sx.sv F (Sx.d_slice3 (l := i) (h := i + 1) (m := l.length) el_99 F rfl rfl rfl rfl rfl rfl rfl rfl (by omega) (by omega) hkc) (Sx.wanted_none rfl _) rfl (by decide) (fun A F => ?_)
  refine Sx.nil ?_
  refine hK2 _ _ ?_
  refine Sx.seq (fun K3 hK3 => ?_)
  refine Sx.seq (fun K4 hK4 => ?_)
  refine Sx.plain ?_
  refine Sx.sv F (Sx.d_move F (Or.inl rfl) rfl) (Sx.wanted_none rfl _) rfl (by decide) (fun A F => ?_)
  refine Sx.sv F (Sx.d_move F (Or.inl rfl) rfl) (Sx.wanted_none rfl _) rfl (by decide) (fun A F => ?_)
  refine Sx.sv F (Sx.d_bin (v := .bool false) F rfl rfl rfl (Sx.i_eq (beq_false_of_ne (by omega)))) (Sx.wanted_none rfl _) rfl (by decide) (fun A F => ?_)
  refine Sx.nil ?_
  refine hK4 _ _ ?_
  refine Sx.condF F rfl ?_
  refine wp_skip ?_
  refine hK3 _ _ ?_
  refine Sx.seq (fun K5 hK5 => ?_)
  refine Sx.plain ?_
  refine Sx.sv F (Sx.d_move F (Or.inl rfl) rfl) (Sx.wanted_none rfl _) rfl (by decide) (fun A F => ?_)
  refine Sx.sv F (Sx.d_lenS el_99 F rfl rfl) (Sx.wanted_none rfl _) rfl (by decide) (fun A F => ?_)
  refine Sx.sv F (Sx.d_move F (Or.inr rfl) rfl) (Sx.wanted_none rfl _) rfl (by decide) (fun A F => ?_)
  refine Sx.nil ?_
  refine hK5 _ _ ?_
  refine Sx.seq (fun K6 hK6 => ?_)
  have hq0 := F.get 0 (.slice (some ⟨g, 0, none⟩) l.length cap) rfl
  have F := Sx.Fr.to F (kv' := [(1, .int .i64 i), (2, .int .i64 (i + 1 : Nat)), (6, .slice none 0 0), (8, .slice (some ⟨g, 0, none⟩) l.length cap), (9, .int .i64 i), (10, .int .i64 (i + 1 : Nat)), (11, .slice (some ⟨g, 0, none⟩) l.length cap), (12, .int .i64 l.length), (13, .slice (if l.length = i then some ⟨g, 0, none⟩ else some ⟨g, 0 + i * 2, none⟩) (i + 1 - i) (l.length - i)), (14, .int .i64 i), (15, .int .i64 (i + 1 : Nat)), (16, .bool false), (18, .slice (some ⟨g, 0, none⟩) l.length cap), (19, .int .i64 l.length), (7, .int .i64 l.length)]) ⟨rfl, rfl, rfl, rfl, rfl, rfl, rfl, rfl, rfl, rfl, rfl, rfl, rfl, rfl, rfl, trivial⟩
  refine Sx.drawn F (by kernel_rfl) (by kernel_rfl) (by kernel_rfl) [some (.slice (some ⟨g, 0, none⟩) l.length cap), some (.int .i64 i), some (.slice (some ⟨g, 0, none⟩) i cap), some (.slice (some ⟨g, 0, none⟩) l.length cap), some (.int .i64 (i + 1 : Nat)), some (.slice (if cap = i + 1 then some ⟨g, 0, none⟩ else some ⟨g, 0 + (i + 1) * 2, none⟩) (l.length - (i + 1)) (cap - (i + 1))), some (.slice (some ⟨g, 0, none⟩) (l.length - 1) cap), some (.slice (some ⟨g, 0, none⟩) (l.length - 1) cap)] (fun L A w => (L 7 = false → A.eval (.tmp 0) = .slice (some ⟨g, 0, none⟩) l.length cap) ∧ Sx.Own w0 w (bs) ((cond (L 6) (⟨true, .slice (some ⟨g, 0, none⟩) (l.length - 1) cap, 107, 2, (l.length - 1), (Tb.cells (l.take i ++ l.drop (i + 1)))⟩ : Sx.Rx) ⟨true, .slice (some ⟨g, 0, none⟩) l.length cap, 107, 2, l.length, (Tb.cells l)⟩) :: rs) K) ⟨(fun _ => hq0), H.drew⟩ ?_ ?_
  · refine ⟨?_, ?_, ?_, ?_, ?_, ?_, ?_, ?_, trivial⟩
    · show Sx.StepAt _ _ _ _ _ _ _ 0
      intro L A w up hun hd F ⟨n0, H⟩
      have f2 : L 2 = false := up 2 0 rfl hun
      have f6 : L 6 = false := up 6 2 rfl f2
      have f7 : L 7 = false := up 7 0 rfl hun
      rw [f6] at H
      have F := Sx.Fr.to F (kv' := []) trivial
      have F := Sx.Fr.add F (n0 f7)
      refine Sx.step_on rfl (Sx.d_move F (Or.inl rfl) rfl) ?_
      rintro xv w' ⟨hx, rfl⟩
      exact ⟨(fun cv hc => hx.trans (Option.some.inj (Option.some.inj hc))), ⟨(fun h => (Sx.put_ne rfl _).trans (n0 h)), (by show Sx.Own _ _ _ _ _; rw [show Inv.add L 0 6 = false from f6]; exact H)⟩⟩
    · show Sx.StepAt _ _ _ _ _ _ _ 1
      intro L A w up hun hd F ⟨n0, H⟩
      have f2 : L 2 = false := up 2 1 rfl hun
      have f6 : L 6 = false := up 6 2 rfl f2
      have f7 : L 7 = false := up 7 1 rfl hun
      rw [f6] at H
      have F := Sx.Fr.to F (kv' := [(1, .int .i64 i)]) ⟨rfl, trivial⟩
      have F := Sx.Fr.add F (n0 f7)
      refine Sx.step_on rfl (Sx.d_move F (Or.inl rfl) rfl) ?_
      rintro xv w' ⟨hx, rfl⟩
      exact ⟨(fun cv hc => hx.trans (Option.some.inj (Option.some.inj hc))), ⟨(fun h => (Sx.put_ne rfl _).trans (n0 h)), (by show Sx.Own _ _ _ _ _; rw [show Inv.add L 1 6 = false from f6]; exact H)⟩⟩
    · show Sx.StepAt _ _ _ _ _ _ _ 2
      intro L A w up hun hd F ⟨n0, H⟩
      have f6 : L 6 = false := up 6 2 rfl hun
      have f7 : L 7 = false := up 7 2 rfl hun
      rw [f6] at H
      have F := Sx.Fr.to F (kv' := [(20, .slice (some ⟨g, 0, none⟩) l.length cap), (21, .int .i64 i)]) ⟨rfl, rfl, trivial⟩
      have F := Sx.Fr.add F (n0 f7)
      refine Sx.step_on rfl (Sx.d_sliceH (h := i) el_99 F rfl rfl rfl rfl (by omega)) ?_
      rintro xv w' ⟨hx, rfl⟩
      exact ⟨(fun cv hc => hx.trans (Option.some.inj (Option.some.inj hc))), ⟨(fun h => (Sx.put_ne rfl _).trans (n0 h)), (by show Sx.Own _ _ _ _ _; rw [show Inv.add L 2 6 = false from f6]; exact H)⟩⟩
    · show Sx.StepAt _ _ _ _ _ _ _ 3
      intro L A w up hun hd F ⟨n0, H⟩
      have f5 : L 5 = false := up 5 3 rfl hun
      have f6 : L 6 = false := up 6 5 rfl f5
      have f7 : L 7 = false := up 7 3 rfl hun
      rw [f6] at H
      have F := Sx.Fr.to F (kv' := []) trivial
      have F := Sx.Fr.add F (n0 f7)
      refine Sx.step_on rfl (Sx.d_move F (Or.inl rfl) rfl) ?_
      rintro xv w' ⟨hx, rfl⟩
      exact ⟨(fun cv hc => hx.trans (Option.some.inj (Option.some.inj hc))), ⟨(fun h => (Sx.put_ne rfl _).trans (n0 h)), (by show Sx.Own _ _ _ _ _; rw [show Inv.add L 3 6 = false from f6]; exact H)⟩⟩
    · show Sx.StepAt _ _ _ _ _ _ _ 4
      intro L A w up hun hd F ⟨n0, H⟩
      have f5 : L 5 = false := up 5 4 rfl hun
      have f6 : L 6 = false := up 6 5 rfl f5
      have f7 : L 7 = false := up 7 4 rfl hun
      rw [f6] at H
      have F := Sx.Fr.to F (kv' := [(2, .int .i64 (i + 1 : Nat))]) ⟨rfl, trivial⟩
      have F := Sx.Fr.add F (n0 f7)
      refine Sx.step_on rfl (Sx.d_move F (Or.inl rfl) rfl) ?_
      rintro xv w' ⟨hx, rfl⟩
      exact ⟨(fun cv hc => hx.trans (Option.some.inj (Option.some.inj hc))), ⟨(fun h => (Sx.put_ne rfl _).trans (n0 h)), (by show Sx.Own _ _ _ _ _; rw [show Inv.add L 4 6 = false from f6]; exact H)⟩⟩
    · show Sx.StepAt _ _ _ _ _ _ _ 5
      intro L A w up hun hd F ⟨n0, H⟩
      have f6 : L 6 = false := up 6 5 rfl hun
      have f7 : L 7 = false := up 7 5 rfl hun
      rw [f6] at H
      have F := Sx.Fr.to F (kv' := [(23, .slice (some ⟨g, 0, none⟩) l.length cap), (24, .int .i64 (i + 1 : Nat))]) ⟨rfl, rfl, trivial⟩
      have F := Sx.Fr.add F (n0 f7)
      refine Sx.step_on rfl (Sx.d_sliceL (l := i + 1) el_99 F rfl rfl rfl rfl (by omega)) ?_
      rintro xv w' ⟨hx, rfl⟩
      exact ⟨(fun cv hc => hx.trans (Option.some.inj (Option.some.inj hc))), ⟨(fun h => (Sx.put_ne rfl _).trans (n0 h)), (by show Sx.Own _ _ _ _ _; rw [show Inv.add L 5 6 = false from f6]; exact H)⟩⟩
    · show Sx.StepAt _ _ _ _ _ _ _ 6
      intro L A w up hun hd F ⟨n0, H⟩
      have f6 : L 6 = false := hun
      have f7 : L 7 = false := up 7 6 rfl hun
      rw [f6] at H
      have F := Sx.Fr.to F (kv' := [(22, .slice (some ⟨g, 0, none⟩) i cap), (25, .slice (if cap = i + 1 then some ⟨g, 0, none⟩ else some ⟨g, 0 + (i + 1) * 2, none⟩) (l.length - (i + 1)) (cap - (i + 1)))]) ⟨rfl, rfl, trivial⟩
      have F := Sx.Fr.add F (n0 f7)
      refine Sx.step_on rfl (Sx.d_del (i0 := 0) (i := i) (j := i + 1) (m := l.length - 1) el_99 F H rfl rfl rfl rfl (by omega) (by omega) (by omega) (by rw [Tb.cells_take, Tb.cells_drop, ← Tb.cells_app]) (Tb.ones l)) ?_
      rintro xv w' ⟨hx, H⟩
      exact ⟨(fun cv hc => hx.trans (Option.some.inj (Option.some.inj hc))), ⟨(fun h => (Sx.put_ne rfl _).trans (n0 h)), H⟩⟩
    · show Sx.StepAt _ _ _ _ _ _ _ 7
      intro L A w up hun hd F ⟨n0, H⟩
      have t6 : L 6 = true := hd 6 rfl
      have f7 : L 7 = false := hun
      rw [t6] at H
      have F := Sx.Fr.to F (kv' := [(26, .slice (some ⟨g, 0, none⟩) (l.length - 1) cap)]) ⟨rfl, trivial⟩
      have F := Sx.Fr.add F (n0 f7)
      refine Sx.step_on rfl (Sx.d_move F (Or.inr rfl) rfl) ?_
      rintro xv w' ⟨hx, rfl⟩
      exact ⟨(fun cv hc => hx.trans (Option.some.inj (Option.some.inj hc))), ⟨(fun h => by cases h), (by show Sx.Own _ _ _ _ _; rw [show Inv.add L 7 6 = true from t6]; exact H)⟩⟩
  · intro L A w hL F ⟨n0, H⟩
    have t6 : L 6 = true := hL 6 rfl
    rw [t6] at H
    have F := Sx.Fr.to F (kv' := [(6, .slice none 0 0), (7, .int .i64 l.length), (0, .slice (some ⟨g, 0, none⟩) (l.length - 1) cap)]) ⟨rfl, rfl, rfl, trivial⟩
    refine hK6 _ _ ?_
    refine Sx.seq (fun K7 hK7 => ?_)
    refine Sx.plain ?_
    refine Sx.sv F (Sx.d_move F (Or.inl rfl) rfl) (Sx.wanted_none rfl _) rfl (by decide) (fun A F => ?_)
    refine Sx.sv F (Sx.d_move F (Or.inl rfl) rfl) (Sx.wanted_none rfl _) rfl (by decide) (fun A F => ?_)
    refine Sx.sv F (Sx.d_lenS el_99 F rfl rfl) (Sx.wanted_none rfl _) rfl (by decide) (fun A F => ?_)
    refine Sx.sv F (Sx.d_move F (Or.inl rfl) rfl) (Sx.wanted_none rfl _) rfl (by decide) (fun A F => ?_)
    refine Sx.sv F (Sx.d_sliceLH (l := l.length - 1) (h := l.length) (off' := 0 + (l.length - 1) * 2) (m := 1) (c' := cap - (l.length - 1)) el_99 F rfl rfl rfl rfl rfl rfl (by omega) (by omega) (by omega) rfl (by omega) rfl) (Sx.wanted_none rfl _) rfl (by decide) (fun A F => ?_)
    refine Sx.ss F (Sx.d_clear1 (i := 0) (m := l.length - 1) (cap := cap) el_99 zero_107 rfl F H rfl rfl (by omega) rfl (by omega)) (Sx.wanted_none rfl _) rfl (fun A w F (H : Sx.Own w0 _ (bs) (⟨true, .slice (some ⟨g, 0, none⟩) (l.length - 1) cap, 107, 2, (l.length - 1), (Tb.cells (l.take i ++ l.drop (i + 1)))⟩ :: rs) K) => ?_)
    refine Sx.nil ?_
    refine hK7 _ _ ?_
    refine Sx.seq (fun K8 hK8 => ?_)
    refine Sx.plain ?_
    refine Sx.sv F (Sx.d_move F (Or.inl rfl) rfl) (Sx.wanted_none rfl _) rfl (by decide) (fun A F => ?_)
    refine Sx.sv F (Sx.d_move F (Or.inr rfl) rfl) (Sx.wanted_none rfl _) rfl (by decide) (fun A F => ?_)
    refine Sx.nil ?_
    refine hK8 _ _ ?_
    refine wp_ret ?_
    try dsimp only [Exit.then, Exit.inBlock, Exit.jump]
    refine Sx.ret1 F Try.results72 (Sx.res_tmp (v := .slice (some ⟨g, 0, none⟩) (l.length - 1) cap) F rfl) ?_
    exact ⟨rfl, H⟩
set_option maxRecDepth 100000 in
theorem tdrop_c (sT : Tb.S) (hok : sT.ok) (h : Int) (tb : Nat) (v : Value) (w0 w : World) (bs : List Sx.Bx) (rs : List Sx.Rx) {K : Nat → Option Obj}  (H : Sx.Own w0 w ((true, tb, [v, .int .i64 sT.n]) :: bs) (⟨true, v, 107, 2, sT.l.length, (Tb.cells sT.l)⟩ :: rs) K) : Calls Try.prog 63 #[.pointer (some ⟨tb, 0, none⟩), .int .i64 h] w fun e w' => e = .returned (.bool (Tb.S.has sT h)) ∧ ∃ v', Sx.Own w0 w' ((true, tb, [v', .int .i64 (Tb.S.drop sT h).n]) :: bs) (⟨true, v', 107, 2, (Tb.S.drop sT h).l.length, Tb.cells (Tb.S.drop sT h).l⟩ :: rs) K := by
  refine Sx.enter (args := [.pointer (some ⟨tb, 0, none⟩), .int .i64 h]) Try.func63 rfl Try.ntmps63 (Nat.le_of_ble_eq_true rfl) (fun A F => ?_)
  refine Sx.seq (fun K1 hK1 => ?_)
  refine Sx.plain ?_
  refine Sx.sv F (Sx.d_move F (Or.inr rfl) rfl) (Sx.wanted_none rfl _) rfl (by decide) (fun A F => ?_)
  refine Sx.nil ?_
  refine hK1 _ _ ?_
  cases hb : Tb.hit h sT.l
  · have hh := (Tb.hit_pos hok.rise h).symm.trans hb
    have e : sT.drop h = sT := by unfold Tb.S.drop; rw [Tb.filter_none h hh]
    have hh' : sT.has h = false := hh
    refine Sx.seq (fun K2 hK2 => ?_)
    refine Sx.plain ?_
    refine Sx.sv F (Sx.d_move F (Or.inl rfl) rfl) (Sx.wanted_none rfl _) rfl (by decide) (fun A F => ?_)
    refine Sx.sv F (Sx.d_move F (Or.inl rfl) rfl) (Sx.wanted_none rfl _) rfl (by decide) (fun A F => ?_)
    refine Sx.sw F (Sx.d_call (vs := [.pointer (some ⟨tb, 0, none⟩), .int .i64 h]) (v := .tuple #[.int .i64 (Tb.pos h sT.l), .bool false]) if_67 F H rfl rfl (Calls.val (tfind_c sT hok h _ _ (Tb.See.own (i := 0) (j := 0) H rfl rfl)) rfl (by rw [hb]))) (Sx.wanted_none rfl _) rfl (by decide) (fun A w F H => ?_)
    refine Sx.sv F (Sx.d_move F (Or.inl rfl) rfl) (Sx.wanted_none rfl _) rfl (by decide) (fun A F => ?_)
    refine Sx.sv F (Sx.d_extract (v := .int .i64 (Tb.pos h sT.l)) F rfl rfl rfl) (Sx.wanted_none rfl _) rfl (by decide) (fun A F => ?_)
    refine Sx.sv F (Sx.d_extract (v := .bool false) F rfl rfl rfl) (Sx.wanted_none rfl _) rfl (by decide) (fun A F => ?_)
    refine Sx.sv F (Sx.d_move F (Or.inr rfl) rfl) (Sx.wanted_none rfl _) rfl (by decide) (fun A F => ?_)
    refine Sx.sv F (Sx.d_move F (Or.inr rfl) rfl) (Sx.wanted_none rfl _) rfl (by decide) (fun A F => ?_)
    refine Sx.nil ?_
    refine hK2 _ _ ?_
    refine Sx.seq (fun K3 hK3 => ?_)
    refine Sx.seq (fun K4 hK4 => ?_)
    refine Sx.plain ?_
    refine Sx.sv F (Sx.d_move F (Or.inl rfl) rfl) (Sx.wanted_none rfl _) rfl (by decide) (fun A F => ?_)
    refine Sx.nil ?_
    refine hK4 _ _ ?_
    refine Sx.condF F rfl ?_
    refine wp_skip ?_
    refine hK3 _ _ ?_
    refine Sx.seq (fun K5 hK5 => ?_)
    refine Sx.plain ?_
    refine Sx.sv F (Sx.d_move F (Or.inl rfl) rfl) (Sx.wanted_none rfl _) rfl (by decide) (fun A F => ?_)
    refine Sx.sv F (Sx.d_move F (Or.inr rfl) rfl) (Sx.wanted_none rfl _) rfl (by decide) (fun A F => ?_)
    refine Sx.nil ?_
    refine hK5 _ _ ?_
    refine wp_ret ?_
    try dsimp only [Exit.then, Exit.inBlock, Exit.jump]
    refine Sx.ret1 F Try.results63 (Sx.res_tmp (v := .bool false) F rfl) ?_
    rw [hh', e]
    exact ⟨rfl, v, H⟩
  · obtain ⟨r, hr, he⟩ := Tb.hit_true hb
    have hpl := (List.getElem?_eq_some_iff.1 hr).1
    have hfew := hok.few
    have hh' : sT.has h = true := (Tb.hit_pos hok.rise h).symm.trans hb
    have hcs : (sT.drop h).l = sT.l.take (Tb.pos h sT.l) ++ sT.l.drop ((Tb.pos h sT.l) + 1) := (Tb.filter_pos hok.rise h hr he).symm
    have hlen : (sT.drop h).l.length = sT.l.length - 1 := by rw [hcs, List.length_append, List.length_take, List.length_drop]; omega
    refine Sx.seq (fun K6 hK6 => ?_)
    refine Sx.plain ?_
    refine Sx.sv F (Sx.d_move F (Or.inl rfl) rfl) (Sx.wanted_none rfl _) rfl (by decide) (fun A F => ?_)
    refine Sx.sv F (Sx.d_move F (Or.inl rfl) rfl) (Sx.wanted_none rfl _) rfl (by decide) (fun A F => ?_)
    refine Sx.sw F (Sx.d_call (vs := [.pointer (some ⟨tb, 0, none⟩), .int .i64 h]) (v := .tuple #[.int .i64 (Tb.pos h sT.l), .bool true]) if_67 F H rfl rfl (Calls.val (tfind_c sT hok h _ _ (Tb.See.own (i := 0) (j := 0) H rfl rfl)) rfl (by rw [hb]))) (Sx.wanted_none rfl _) rfl (by decide) (fun A w F H => ?_)
    refine Sx.sv F (Sx.d_move F (Or.inl rfl) rfl) (Sx.wanted_none rfl _) rfl (by decide) (fun A F => ?_)
    refine Sx.sv F (Sx.d_extract (v := .int .i64 (Tb.pos h sT.l)) F rfl rfl rfl) (Sx.wanted_none rfl _) rfl (by decide) (fun A F => ?_)
    refine Sx.sv F (Sx.d_extract (v := .bool true) F rfl rfl rfl) (Sx.wanted_none rfl _) rfl (by decide) (fun A F => ?_)
    refine Sx.sv F (Sx.d_move F (Or.inr rfl) rfl) (Sx.wanted_none rfl _) rfl (by decide) (fun A F => ?_)
    refine Sx.sv F (Sx.d_move F (Or.inr rfl) rfl) (Sx.wanted_none rfl _) rfl (by decide) (fun A F => ?_)
    refine Sx.nil ?_
    refine hK6 _ _ ?_
    refine Sx.seq (fun K7 hK7 => ?_)
    refine Sx.seq (fun K8 hK8 => ?_)
    refine Sx.plain ?_
    refine Sx.sv F (Sx.d_move F (Or.inl rfl) rfl) (Sx.wanted_none rfl _) rfl (by decide) (fun A F => ?_)
    refine Sx.nil ?_
    refine hK8 _ _ ?_
    refine Sx.condT F rfl ?_
    refine Sx.plain ?_
    refine Sx.sv F (Sx.d_move F (Or.inl rfl) rfl) (Sx.wanted_none rfl _) rfl (by decide) (fun A F => ?_)
    refine Sx.sv F (Sx.d_move F (Or.inl rfl) rfl) (Sx.wanted_none rfl _) rfl (by decide) (fun A F => ?_)
    refine Sx.sv F (Sx.d_nil F rfl rfl) (Sx.wanted_none rfl _) rfl (by decide) (fun A F => ?_)
    refine Sx.sv F (Sx.d_faddr (v := .pointer (some ⟨tb, 0, none⟩)) F rfl rfl (fa_101_0 _ 0 _)) (Sx.wanted_none rfl _) rfl (by decide) (fun A F => ?_)
    refine Sx.sv F (Sx.d_load1 (i := 0) (v := v) one_99 F H rfl rfl rfl rfl) (Sx.wanted_none rfl _) rfl (by decide) (fun A F => ?_)
    refine Sx.sv F (Sx.d_move F (Or.inl rfl) rfl) (Sx.wanted_none rfl _) rfl (by decide) (fun A F => ?_)
    refine Sx.sv F (Sx.d_move F (Or.inl rfl) rfl) (Sx.wanted_none rfl _) rfl (by decide) (fun A F => ?_)
    refine Sx.sv F (Sx.d_bin (v := .int .i64 ((Tb.pos h sT.l) + 1 : Nat)) F rfl rfl rfl (Sx.i_addN rfl (Sx.in_i64 _ (by omega)))) (Sx.wanted_none rfl _) rfl (by decide) (fun A F => ?_)
    obtain ⟨g, cap, rfl, hc1, hc2⟩ := H.open (i := 0) rfl (by omega)
    refine Sx.sw F (Sx.d_callD (vs := [.slice (some ⟨g, 0, none⟩) sT.l.length cap, .int .i64 (Tb.pos h sT.l), .int .i64 ((Tb.pos h sT.l) + 1 : Nat)]) (v := .slice (some ⟨g, 0, none⟩) (sT.l.length - 1) cap) if_72 F rfl rfl (delete_c sT.l hok.few (Tb.pos h sT.l) hpl g cap hc1 _ _ _ _ H)) (Sx.wanted_none rfl _) rfl (by decide) (fun A w F (H : Sx.Own w0 _ ((true, tb, [.slice (some ⟨g, 0, none⟩) sT.l.length cap, .int .i64 sT.n]) :: bs) (⟨true, .slice (some ⟨g, 0, none⟩) (sT.l.length - 1) cap, 107, 2, (sT.l.length - 1), (Tb.cells (sT.l.take (Tb.pos h sT.l) ++ sT.l.drop ((Tb.pos h sT.l) + 1)))⟩ :: rs) K) => ?_)
    refine Sx.sv F (Sx.d_nil F rfl rfl) (Sx.wanted_none rfl _) rfl (by decide) (fun A F => ?_)
    refine Sx.sv F (Sx.d_faddr (v := .pointer (some ⟨tb, 0, none⟩)) F rfl rfl (fa_101_0 _ 0 _)) (Sx.wanted_none rfl _) rfl (by decide) (fun A F => ?_)
    refine Sx.ss F (Sx.d_store (i := 0) (xs := [.slice (some ⟨g, 0, none⟩) (sT.l.length - 1) cap]) (us := [.slice (some ⟨g, 0, none⟩) (sT.l.length - 1) cap, .int .i64 sT.n]) sz_99 F H rfl rfl rfl rfl rfl rfl rfl (Nat.le_of_ble_eq_true rfl) rfl) (Sx.wanted_none rfl _) rfl (fun A w F (H : Sx.Own w0 _ ((true, tb, [.slice (some ⟨g, 0, none⟩) (sT.l.length - 1) cap, .int .i64 sT.n]) :: bs) (⟨true, .slice (some ⟨g, 0, none⟩) (sT.l.length - 1) cap, 107, 2, (sT.l.length - 1), (Tb.cells (sT.l.take (Tb.pos h sT.l) ++ sT.l.drop ((Tb.pos h sT.l) + 1)))⟩ :: rs) K) => ?_)
    refine Sx.nil ?_
    refine hK7 _ _ ?_
    refine Sx.seq (fun K9 hK9 => ?_)
    refine Sx.plain ?_
    refine Sx.sv F (Sx.d_move F (Or.inl rfl) rfl) (Sx.wanted_none rfl _) rfl (by decide) (fun A F => ?_)
    refine Sx.sv F (Sx.d_move F (Or.inr rfl) rfl) (Sx.wanted_none rfl _) rfl (by decide) (fun A F => ?_)
    refine Sx.nil ?_
    refine hK9 _ _ ?_
    refine wp_ret ?_
    try dsimp only [Exit.then, Exit.inBlock, Exit.jump]
    refine Sx.ret1 F Try.results63 (Sx.res_tmp (v := .bool true) F rfl) ?_
    rw [hh', hlen, hcs]
    exact ⟨rfl, _, H⟩
theorem tdrop_k (sT : Tb.S) (h : Int) (hok : sT.ok) (tb : Nat) (v : Value) (w0 w : World) {bs : List Sx.Bx} {rs : List Sx.Rx} {K : Nat → Option Obj} (H : Sx.Own w0 w ((true, tb, [v, .int .i64 sT.n]) :: bs) (⟨true, v, 107, 2, sT.l.length, Tb.cells sT.l⟩ :: rs) K) : Calls Try.prog 63 #[.pointer (some ⟨tb, 0, none⟩), .int .i64 h] w fun e w' => e = .returned (.bool (Tb.S.has sT h)) ∧ ∃ v', Sx.Own w0 w' ((true, tb, [v', .int .i64 (Tb.S.drop sT h).n]) :: bs) (⟨true, v', 107, 2, (Tb.S.drop sT h).l.length, Tb.cells (Tb.S.drop sT h).l⟩ :: rs) K := tdrop_c sT hok h tb v w0 w bs rs H
set_option maxRecDepth 100000 in
theorem tdo_c (sT : Tb.S) (hok : sT.ok) (d h : Int) (hh : -9223372036854775808 ≤ h ∧ h ≤ 9223372036854775807) (x : BitVec 64) (tb : Nat) (v : Value) (w0 w : World) (bs : List Sx.Bx) (rs : List Sx.Rx) {K : Nat → Option Obj}  (H : Sx.Own w0 w ((true, tb, [v, .int .i64 sT.n]) :: bs) (⟨true, v, 107, 2, sT.l.length, (Tb.cells sT.l)⟩ :: rs) K) : Calls Try.prog 38 #[.pointer (some ⟨tb, 0, none⟩), .agg #[.int .i64 d, .int .i64 h, .int .u64 x.toNat]] w fun e w' => e = .returned (.tuple #[.int .i64 (Tb.S.doh sT d h), .int .i64 (Tb.S.doe sT d h)]) ∧ ∃ v', Sx.Own w0 w' ((true, tb, [v', .int .i64 (Tb.S.act sT d h x).n]) :: bs) (⟨true, v', 107, 2, (Tb.S.act sT d h x).l.length, Tb.cells (Tb.S.act sT d h x).l⟩ :: rs) K := by
  refine Sx.enter (args := [.pointer (some ⟨tb, 0, none⟩), .agg #[.int .i64 d, .int .i64 h, .int .u64 x.toNat]]) Try.func38 rfl Try.ntmps38 (Nat.le_of_ble_eq_true rfl) (fun A F => ?_)
  refine Sx.seq (fun K1 hK1 => ?_)
  refine Sx.plain ?_
  refine Sx.sb F (Sx.d_box F H rfl rfl [.int .i64 d, .int .i64 h, .int .u64 x.toNat] rfl) (Sx.wanted_none rfl _) rfl (by decide) (fun g1 A w F H => ?_)
  refine Sx.sv F (Sx.d_move F (Or.inr rfl) rfl) (Sx.wanted_none rfl _) rfl (by decide) (fun A F => ?_)
  refine Sx.sv F (Sx.d_move F (Or.inr rfl) rfl) (Sx.wanted_none rfl _) rfl (by decide) (fun A F => ?_)
  refine Sx.nil ?_
  refine hK1 _ _ ?_
  by_cases h0 : d = 0
  · skip
    refine Sx.seq (fun K2 hK2 => ?_)
    refine Sx.seq (fun K3 hK3 => ?_)
    refine Sx.plain ?_
    refine Sx.sv F (Sx.d_faddr (v := .pointer (some ⟨g1, 0, none⟩)) F rfl rfl (fa_66_0 _ 0 _)) (Sx.wanted_none rfl _) rfl (by decide) (fun A F => ?_)
    refine Sx.sv F (Sx.d_load1 (i := 0) (v := .int .i64 d) one_3 F H rfl rfl rfl rfl) (Sx.wanted_none rfl _) rfl (by decide) (fun A F => ?_)
    refine Sx.nil ?_
    refine hK3 _ _ ?_
    refine wp_block ?_
    refine Sx.seq (fun K4 hK4 => ?_)
    refine Sx.plain ?_
    refine Sx.sv F (Sx.d_bin (v := .bool true) F rfl rfl rfl (Sx.i_eq (beq_iff_eq.2 h0))) (Sx.wanted_none rfl _) rfl (by decide) (fun A F => ?_)
    refine Sx.sv F (Sx.d_move F (Or.inr rfl) rfl) (Sx.wanted_none rfl _) rfl (by decide) (fun A F => ?_)
    refine Sx.nil ?_
    refine hK4 _ _ ?_
    refine Sx.condT F rfl ?_
    refine Sx.seq (fun K5 hK5 => ?_)
    refine Sx.plain ?_
    refine Sx.sv F (Sx.d_move F (Or.inl rfl) rfl) (Sx.wanted_none rfl _) rfl (by decide) (fun A F => ?_)
    refine Sx.sv F (Sx.d_faddr (v := .pointer (some ⟨g1, 2, none⟩)) F rfl rfl (fa_66_2 _ 0 _)) (Sx.wanted_none rfl _) rfl (by decide) (fun A F => ?_)
    refine Sx.sv F (Sx.d_load1 (i := 0) (v := .int .u64 x.toNat) one_22 F H rfl rfl rfl rfl) (Sx.wanted_none rfl _) rfl (by decide) (fun A F => ?_)
    have H := H.swapB
    refine Sx.so (x := .tuple #[.int .i64 (Tb.S.addh sT), .int .i64 (Tb.S.adde sT)]) F (Sx.d_callO (vs := [.pointer (some ⟨tb, 0, none⟩), .int .u64 x.toNat]) if_62 F rfl rfl (Sx.oo (tadd_k sT x hok _ _ _ _ H))) (Sx.wanted_none rfl _) rfl (by decide) (fun v1 A w F (H : Sx.Own w0 _ ((true, tb, [v1, .int .i64 ((Tb.S.add sT x).n)]) :: (true, g1, [.int .i64 d, .int .i64 h, .int .u64 x.toNat]) :: bs) (⟨true, v1, 107, 2, (Tb.S.add sT x).l.length, (Tb.cells (Tb.S.add sT x).l)⟩ :: rs) K) => ?_)
    refine Sx.sv F (Sx.d_extract (v := .int .i64 (Tb.S.addh sT)) F rfl rfl rfl) (Sx.wanted_none rfl _) rfl (by decide) (fun A F => ?_)
    refine Sx.sv F (Sx.d_extract (v := .int .i64 (Tb.S.adde sT)) F rfl rfl rfl) (Sx.wanted_none rfl _) rfl (by decide) (fun A F => ?_)
    refine Sx.sv F (Sx.d_move F (Or.inr rfl) rfl) (Sx.wanted_none rfl _) rfl (by decide) (fun A F => ?_)
    refine Sx.sv F (Sx.d_move F (Or.inr rfl) rfl) (Sx.wanted_none rfl _) rfl (by decide) (fun A F => ?_)
    refine Sx.nil ?_
    refine hK5 _ _ ?_
    refine wp_ret ?_
    try dsimp only [Exit.then, Exit.inBlock, Exit.jump]
    refine Sx.ret2 F Try.results38 (Sx.res_tmp (v := .int .i64 (Tb.S.addh sT)) F rfl) (Sx.res_tmp (v := .int .i64 (Tb.S.adde sT)) F rfl) ?_
    subst h0
    exact ⟨rfl, v1, H.swapB.tailB⟩
  · skip
    by_cases h1 : d = 1
    · skip
      cases hb : Tb.S.has sT h
      · skip
        refine Sx.seq (fun K6 hK6 => ?_)
        refine Sx.seq (fun K7 hK7 => ?_)
        refine Sx.plain ?_
        refine Sx.sv F (Sx.d_faddr (v := .pointer (some ⟨g1, 0, none⟩)) F rfl rfl (fa_66_0 _ 0 _)) (Sx.wanted_none rfl _) rfl (by decide) (fun A F => ?_)
        refine Sx.sv F (Sx.d_load1 (i := 0) (v := .int .i64 d) one_3 F H rfl rfl rfl rfl) (Sx.wanted_none rfl _) rfl (by decide) (fun A F => ?_)
        refine Sx.nil ?_
        refine hK7 _ _ ?_
        refine wp_block ?_
        refine Sx.seq (fun K8 hK8 => ?_)
        refine Sx.plain ?_
        refine Sx.sv F (Sx.d_bin (v := .bool false) F rfl rfl rfl (Sx.i_eq (beq_false_of_ne h0))) (Sx.wanted_none rfl _) rfl (by decide) (fun A F => ?_)
        refine Sx.sv F (Sx.d_move F (Or.inr rfl) rfl) (Sx.wanted_none rfl _) rfl (by decide) (fun A F => ?_)
        refine Sx.nil ?_
        refine hK8 _ _ ?_
        refine Sx.condF F rfl ?_
        refine Sx.seq (fun K9 hK9 => ?_)
        refine Sx.plain ?_
        refine Sx.sv F (Sx.d_bin (v := .bool true) F rfl rfl rfl (Sx.i_eq (beq_iff_eq.2 h1))) (Sx.wanted_none rfl _) rfl (by decide) (fun A F => ?_)
        refine Sx.sv F (Sx.d_move F (Or.inr rfl) rfl) (Sx.wanted_none rfl _) rfl (by decide) (fun A F => ?_)
        refine Sx.nil ?_
        refine hK9 _ _ ?_
        refine Sx.condT F rfl ?_
        refine Sx.seq (fun K10 hK10 => ?_)
        refine Sx.plain ?_
        refine Sx.sv F (Sx.d_move F (Or.inl rfl) rfl) (Sx.wanted_none rfl _) rfl (by decide) (fun A F => ?_)
        refine Sx.sv F (Sx.d_faddr (v := .pointer (some ⟨g1, 1, none⟩)) F rfl rfl (fa_66_1 _ 0 _)) (Sx.wanted_none rfl _) rfl (by decide) (fun A F => ?_)
        refine Sx.sv F (Sx.d_load1 (i := 0) (v := .int .i64 h) one_3 F H rfl rfl rfl rfl) (Sx.wanted_none rfl _) rfl (by decide) (fun A F => ?_)
        have H := H.swapB
        refine Sx.so (x := .bool false) F (Sx.d_callO (vs := [.pointer (some ⟨tb, 0, none⟩), .int .i64 h]) if_63 F rfl rfl (Sx.oo ((tdrop_k sT h hok _ _ _ _ H).mono (fun _ _ ⟨e, r⟩ => ⟨e.trans (by rw [show Tb.S.has sT h = false from hb]), r⟩)))) (Sx.wanted_none rfl _) rfl (by decide) (fun v2 A w F (H : Sx.Own w0 _ ((true, tb, [v2, .int .i64 ((Tb.S.drop sT h).n)]) :: (true, g1, [.int .i64 d, .int .i64 h, .int .u64 x.toNat]) :: bs) (⟨true, v2, 107, 2, (Tb.S.drop sT h).l.length, (Tb.cells (Tb.S.drop sT h).l)⟩ :: rs) K) => ?_)
        refine Sx.nil ?_
        refine hK10 _ _ ?_
        refine Sx.condF F rfl ?_
        refine wp_skip ?_
        refine hK6 _ _ ?_
        refine Sx.seq (fun K11 hK11 => ?_)
        refine Sx.plain ?_
        refine Sx.sv F (Sx.d_move F (Or.inr rfl) rfl) (Sx.wanted_none rfl _) rfl (by decide) (fun A F => ?_)
        refine Sx.sv F (Sx.d_move F (Or.inr rfl) rfl) (Sx.wanted_none rfl _) rfl (by decide) (fun A F => ?_)
        refine Sx.nil ?_
        refine hK11 _ _ ?_
        refine wp_ret ?_
        try dsimp only [Exit.then, Exit.inBlock, Exit.jump]
        refine Sx.ret2 F Try.results38 (Sx.res_tmp (v := .int .i64 0) F rfl) (Sx.res_tmp (v := .int .i64 0) F rfl) ?_
        subst h1
        have e : Tb.S.doh sT 1 h = 0 := by show (if Tb.S.has sT h = true then (1 : Int) else 0) = _; rw [hb]; rfl
        rw [e]
        exact ⟨rfl, v2, H.swapB.tailB⟩
      · skip
        refine Sx.seq (fun K12 hK12 => ?_)
        refine Sx.seq (fun K13 hK13 => ?_)
        refine Sx.plain ?_
        refine Sx.sv F (Sx.d_faddr (v := .pointer (some ⟨g1, 0, none⟩)) F rfl rfl (fa_66_0 _ 0 _)) (Sx.wanted_none rfl _) rfl (by decide) (fun A F => ?_)
        refine Sx.sv F (Sx.d_load1 (i := 0) (v := .int .i64 d) one_3 F H rfl rfl rfl rfl) (Sx.wanted_none rfl _) rfl (by decide) (fun A F => ?_)
        refine Sx.nil ?_
        refine hK13 _ _ ?_
        refine wp_block ?_
        refine Sx.seq (fun K14 hK14 => ?_)
        refine Sx.plain ?_
        refine Sx.sv F (Sx.d_bin (v := .bool false) F rfl rfl rfl (Sx.i_eq (beq_false_of_ne h0))) (Sx.wanted_none rfl _) rfl (by decide) (fun A F => ?_)
        refine Sx.sv F (Sx.d_move F (Or.inr rfl) rfl) (Sx.wanted_none rfl _) rfl (by decide) (fun A F => ?_)
        refine Sx.nil ?_
        refine hK14 _ _ ?_
        refine Sx.condF F rfl ?_
        refine Sx.seq (fun K15 hK15 => ?_)
        refine Sx.plain ?_
        refine Sx.sv F (Sx.d_bin (v := .bool true) F rfl rfl rfl (Sx.i_eq (beq_iff_eq.2 h1))) (Sx.wanted_none rfl _) rfl (by decide) (fun A F => ?_)
        refine Sx.sv F (Sx.d_move F (Or.inr rfl) rfl) (Sx.wanted_none rfl _) rfl (by decide) (fun A F => ?_)
        refine Sx.nil ?_
        refine hK15 _ _ ?_
        refine Sx.condT F rfl ?_
        refine Sx.seq (fun K16 hK16 => ?_)
        refine Sx.plain ?_
        refine Sx.sv F (Sx.d_move F (Or.inl rfl) rfl) (Sx.wanted_none rfl _) rfl (by decide) (fun A F => ?_)
        refine Sx.sv F (Sx.d_faddr (v := .pointer (some ⟨g1, 1, none⟩)) F rfl rfl (fa_66_1 _ 0 _)) (Sx.wanted_none rfl _) rfl (by decide) (fun A F => ?_)
        refine Sx.sv F (Sx.d_load1 (i := 0) (v := .int .i64 h) one_3 F H rfl rfl rfl rfl) (Sx.wanted_none rfl _) rfl (by decide) (fun A F => ?_)
        have H := H.swapB
        refine Sx.so (x := .bool true) F (Sx.d_callO (vs := [.pointer (some ⟨tb, 0, none⟩), .int .i64 h]) if_63 F rfl rfl (Sx.oo ((tdrop_k sT h hok _ _ _ _ H).mono (fun _ _ ⟨e, r⟩ => ⟨e.trans (by rw [show Tb.S.has sT h = true from hb]), r⟩)))) (Sx.wanted_none rfl _) rfl (by decide) (fun v3 A w F (H : Sx.Own w0 _ ((true, tb, [v3, .int .i64 ((Tb.S.drop sT h).n)]) :: (true, g1, [.int .i64 d, .int .i64 h, .int .u64 x.toNat]) :: bs) (⟨true, v3, 107, 2, (Tb.S.drop sT h).l.length, (Tb.cells (Tb.S.drop sT h).l)⟩ :: rs) K) => ?_)
        refine Sx.nil ?_
        refine hK16 _ _ ?_
        refine Sx.condT F rfl ?_
        refine Sx.seq (fun K17 hK17 => ?_)
        refine Sx.plain ?_
        refine Sx.sv F (Sx.d_move F (Or.inr rfl) rfl) (Sx.wanted_none rfl _) rfl (by decide) (fun A F => ?_)
        refine Sx.sv F (Sx.d_move F (Or.inr rfl) rfl) (Sx.wanted_none rfl _) rfl (by decide) (fun A F => ?_)
        refine Sx.nil ?_
        refine hK17 _ _ ?_
        refine wp_ret ?_
        try dsimp only [Exit.then, Exit.inBlock, Exit.jump]
        refine Sx.ret2 F Try.results38 (Sx.res_tmp (v := .int .i64 1) F rfl) (Sx.res_tmp (v := .int .i64 0) F rfl) ?_
        subst h1
        have e : Tb.S.doh sT 1 h = 1 := by show (if Tb.S.has sT h = true then (1 : Int) else 0) = _; rw [hb]; rfl
        rw [e]
        exact ⟨rfl, v3, H.swapB.tailB⟩
    · skip
      by_cases h2 : d = 2
      · skip
        refine Sx.seq (fun K18 hK18 => ?_)
        refine Sx.seq (fun K19 hK19 => ?_)
        refine Sx.plain ?_
        refine Sx.sv F (Sx.d_faddr (v := .pointer (some ⟨g1, 0, none⟩)) F rfl rfl (fa_66_0 _ 0 _)) (Sx.wanted_none rfl _) rfl (by decide) (fun A F => ?_)
        refine Sx.sv F (Sx.d_load1 (i := 0) (v := .int .i64 d) one_3 F H rfl rfl rfl rfl) (Sx.wanted_none rfl _) rfl (by decide) (fun A F => ?_)
        refine Sx.nil ?_
        refine hK19 _ _ ?_
        refine wp_block ?_
        refine Sx.seq (fun K20 hK20 => ?_)
        refine Sx.plain ?_
        refine Sx.sv F (Sx.d_bin (v := .bool false) F rfl rfl rfl (Sx.i_eq (beq_false_of_ne h0))) (Sx.wanted_none rfl _) rfl (by decide) (fun A F => ?_)
        refine Sx.sv F (Sx.d_move F (Or.inr rfl) rfl) (Sx.wanted_none rfl _) rfl (by decide) (fun A F => ?_)
        refine Sx.nil ?_
        refine hK20 _ _ ?_
        refine Sx.condF F rfl ?_
        refine Sx.seq (fun K21 hK21 => ?_)
        refine Sx.plain ?_
        refine Sx.sv F (Sx.d_bin (v := .bool false) F rfl rfl rfl (Sx.i_eq (beq_false_of_ne h1))) (Sx.wanted_none rfl _) rfl (by decide) (fun A F => ?_)
        refine Sx.sv F (Sx.d_move F (Or.inr rfl) rfl) (Sx.wanted_none rfl _) rfl (by decide) (fun A F => ?_)
        refine Sx.nil ?_
        refine hK21 _ _ ?_
        refine Sx.condF F rfl ?_
        refine Sx.seq (fun K22 hK22 => ?_)
        refine Sx.plain ?_
        refine Sx.sv F (Sx.d_bin (v := .bool true) F rfl rfl rfl (Sx.i_eq (beq_iff_eq.2 h2))) (Sx.wanted_none rfl _) rfl (by decide) (fun A F => ?_)
        refine Sx.sv F (Sx.d_move F (Or.inr rfl) rfl) (Sx.wanted_none rfl _) rfl (by decide) (fun A F => ?_)
        refine Sx.nil ?_
        refine hK22 _ _ ?_
        refine Sx.condT F rfl ?_
        refine Sx.seq (fun K23 hK23 => ?_)
        refine Sx.plain ?_
        refine Sx.sv F (Sx.d_move F (Or.inl rfl) rfl) (Sx.wanted_none rfl _) rfl (by decide) (fun A F => ?_)
        refine Sx.sv F (Sx.d_faddr (v := .pointer (some ⟨g1, 1, none⟩)) F rfl rfl (fa_66_1 _ 0 _)) (Sx.wanted_none rfl _) rfl (by decide) (fun A F => ?_)
        refine Sx.sv F (Sx.d_load1 (i := 0) (v := .int .i64 h) one_3 F H rfl rfl rfl rfl) (Sx.wanted_none rfl _) rfl (by decide) (fun A F => ?_)
        refine Sx.sv F (Sx.d_faddr (v := .pointer (some ⟨g1, 2, none⟩)) F rfl rfl (fa_66_2 _ 0 _)) (Sx.wanted_none rfl _) rfl (by decide) (fun A F => ?_)
        refine Sx.sv F (Sx.d_load1 (i := 0) (v := .int .u64 x.toNat) one_22 F H rfl rfl rfl rfl) (Sx.wanted_none rfl _) rfl (by decide) (fun A F => ?_)
        have H := H.swapB
        refine Sx.so (x := .int .i64 (Tb.S.laye sT h)) F (Sx.d_callO (vs := [.pointer (some ⟨tb, 0, none⟩), .int .i64 h, .int .u64 x.toNat]) if_64 F rfl rfl (Sx.oo (tlay_k sT h x hh hok _ _ _ _ H))) (Sx.wanted_none rfl _) rfl (by decide) (fun v4 A w F (H : Sx.Own w0 _ ((true, tb, [v4, .int .i64 ((Tb.S.lay sT h x).n)]) :: (true, g1, [.int .i64 d, .int .i64 h, .int .u64 x.toNat]) :: bs) (⟨true, v4, 107, 2, (Tb.S.lay sT h x).l.length, (Tb.cells (Tb.S.lay sT h x).l)⟩ :: rs) K) => ?_)
        refine Sx.sv F (Sx.d_move F (Or.inr rfl) rfl) (Sx.wanted_none rfl _) rfl (by decide) (fun A F => ?_)
        refine Sx.sv F (Sx.d_move F (Or.inr rfl) rfl) (Sx.wanted_none rfl _) rfl (by decide) (fun A F => ?_)
        refine Sx.nil ?_
        refine hK23 _ _ ?_
        refine wp_ret ?_
        try dsimp only [Exit.then, Exit.inBlock, Exit.jump]
        refine Sx.ret2 F Try.results38 (Sx.res_tmp (v := .int .i64 0) F rfl) (Sx.res_tmp (v := .int .i64 (Tb.S.laye sT h)) F rfl) ?_
        subst h2
        exact ⟨rfl, v4, H.swapB.tailB⟩
      · skip
        by_cases h3 : d = 3
        · skip
          refine Sx.seq (fun K24 hK24 => ?_)
          refine Sx.seq (fun K25 hK25 => ?_)
          refine Sx.plain ?_
          refine Sx.sv F (Sx.d_faddr (v := .pointer (some ⟨g1, 0, none⟩)) F rfl rfl (fa_66_0 _ 0 _)) (Sx.wanted_none rfl _) rfl (by decide) (fun A F => ?_)
          refine Sx.sv F (Sx.d_load1 (i := 0) (v := .int .i64 d) one_3 F H rfl rfl rfl rfl) (Sx.wanted_none rfl _) rfl (by decide) (fun A F => ?_)
          refine Sx.nil ?_
          refine hK25 _ _ ?_
          refine wp_block ?_
          refine Sx.seq (fun K26 hK26 => ?_)
          refine Sx.plain ?_
          refine Sx.sv F (Sx.d_bin (v := .bool false) F rfl rfl rfl (Sx.i_eq (beq_false_of_ne h0))) (Sx.wanted_none rfl _) rfl (by decide) (fun A F => ?_)
          refine Sx.sv F (Sx.d_move F (Or.inr rfl) rfl) (Sx.wanted_none rfl _) rfl (by decide) (fun A F => ?_)
          refine Sx.nil ?_
          refine hK26 _ _ ?_
          refine Sx.condF F rfl ?_
          refine Sx.seq (fun K27 hK27 => ?_)
          refine Sx.plain ?_
          refine Sx.sv F (Sx.d_bin (v := .bool false) F rfl rfl rfl (Sx.i_eq (beq_false_of_ne h1))) (Sx.wanted_none rfl _) rfl (by decide) (fun A F => ?_)
          refine Sx.sv F (Sx.d_move F (Or.inr rfl) rfl) (Sx.wanted_none rfl _) rfl (by decide) (fun A F => ?_)
          refine Sx.nil ?_
          refine hK27 _ _ ?_
          refine Sx.condF F rfl ?_
          refine Sx.seq (fun K28 hK28 => ?_)
          refine Sx.plain ?_
          refine Sx.sv F (Sx.d_bin (v := .bool false) F rfl rfl rfl (Sx.i_eq (beq_false_of_ne h2))) (Sx.wanted_none rfl _) rfl (by decide) (fun A F => ?_)
          refine Sx.sv F (Sx.d_move F (Or.inr rfl) rfl) (Sx.wanted_none rfl _) rfl (by decide) (fun A F => ?_)
          refine Sx.nil ?_
          refine hK28 _ _ ?_
          refine Sx.condF F rfl ?_
          refine Sx.seq (fun K29 hK29 => ?_)
          refine Sx.plain ?_
          refine Sx.sv F (Sx.d_bin (v := .bool true) F rfl rfl rfl (Sx.i_eq (beq_iff_eq.2 h3))) (Sx.wanted_none rfl _) rfl (by decide) (fun A F => ?_)
          refine Sx.sv F (Sx.d_move F (Or.inr rfl) rfl) (Sx.wanted_none rfl _) rfl (by decide) (fun A F => ?_)
          refine Sx.nil ?_
          refine hK29 _ _ ?_
          refine Sx.condT F rfl ?_
          refine Sx.seq (fun K30 hK30 => ?_)
          refine Sx.plain ?_
          refine Sx.sv F (Sx.d_move F (Or.inl rfl) rfl) (Sx.wanted_none rfl _) rfl (by decide) (fun A F => ?_)
          refine Sx.sv F (Sx.d_faddr (v := .pointer (some ⟨g1, 1, none⟩)) F rfl rfl (fa_66_1 _ 0 _)) (Sx.wanted_none rfl _) rfl (by decide) (fun A F => ?_)
          refine Sx.sv F (Sx.d_load1 (i := 0) (v := .int .i64 h) one_3 F H rfl rfl rfl rfl) (Sx.wanted_none rfl _) rfl (by decide) (fun A F => ?_)
          have H := H.swapB
          refine Sx.so (x := .int .i64 (Tb.S.goese sT h)) F (Sx.d_callO (vs := [.pointer (some ⟨tb, 0, none⟩), .int .i64 h]) if_65 F rfl rfl (Sx.oo (tgoes_k sT h hok _ _ _ _ H))) (Sx.wanted_none rfl _) rfl (by decide) (fun v5 A w F (H : Sx.Own w0 _ ((true, tb, [v5, .int .i64 ((Tb.S.goes sT h).n)]) :: (true, g1, [.int .i64 d, .int .i64 h, .int .u64 x.toNat]) :: bs) (⟨true, v5, 107, 2, (Tb.S.goes sT h).l.length, (Tb.cells (Tb.S.goes sT h).l)⟩ :: rs) K) => ?_)
          refine Sx.sv F (Sx.d_move F (Or.inr rfl) rfl) (Sx.wanted_none rfl _) rfl (by decide) (fun A F => ?_)
          refine Sx.sv F (Sx.d_move F (Or.inr rfl) rfl) (Sx.wanted_none rfl _) rfl (by decide) (fun A F => ?_)
          refine Sx.nil ?_
          refine hK30 _ _ ?_
          refine wp_ret ?_
          try dsimp only [Exit.then, Exit.inBlock, Exit.jump]
          refine Sx.ret2 F Try.results38 (Sx.res_tmp (v := .int .i64 0) F rfl) (Sx.res_tmp (v := .int .i64 (Tb.S.goese sT h)) F rfl) ?_
          subst h3
          exact ⟨rfl, v5, H.swapB.tailB⟩
        · skip
          refine Sx.seq (fun K31 hK31 => ?_)
          refine Sx.seq (fun K32 hK32 => ?_)
          refine Sx.plain ?_
          refine Sx.sv F (Sx.d_faddr (v := .pointer (some ⟨g1, 0, none⟩)) F rfl rfl (fa_66_0 _ 0 _)) (Sx.wanted_none rfl _) rfl (by decide) (fun A F => ?_)
          refine Sx.sv F (Sx.d_load1 (i := 0) (v := .int .i64 d) one_3 F H rfl rfl rfl rfl) (Sx.wanted_none rfl _) rfl (by decide) (fun A F => ?_)
          refine Sx.nil ?_
          refine hK32 _ _ ?_
          refine wp_block ?_
          refine Sx.seq (fun K33 hK33 => ?_)
          refine Sx.plain ?_
          refine Sx.sv F (Sx.d_bin (v := .bool false) F rfl rfl rfl (Sx.i_eq (beq_false_of_ne h0))) (Sx.wanted_none rfl _) rfl (by decide) (fun A F => ?_)
          refine Sx.sv F (Sx.d_move F (Or.inr rfl) rfl) (Sx.wanted_none rfl _) rfl (by decide) (fun A F => ?_)
          refine Sx.nil ?_
          refine hK33 _ _ ?_
          refine Sx.condF F rfl ?_
          refine Sx.seq (fun K34 hK34 => ?_)
          refine Sx.plain ?_
          refine Sx.sv F (Sx.d_bin (v := .bool false) F rfl rfl rfl (Sx.i_eq (beq_false_of_ne h1))) (Sx.wanted_none rfl _) rfl (by decide) (fun A F => ?_)
          refine Sx.sv F (Sx.d_move F (Or.inr rfl) rfl) (Sx.wanted_none rfl _) rfl (by decide) (fun A F => ?_)
          refine Sx.nil ?_
          refine hK34 _ _ ?_
          refine Sx.condF F rfl ?_
          refine Sx.seq (fun K35 hK35 => ?_)
          refine Sx.plain ?_
          refine Sx.sv F (Sx.d_bin (v := .bool false) F rfl rfl rfl (Sx.i_eq (beq_false_of_ne h2))) (Sx.wanted_none rfl _) rfl (by decide) (fun A F => ?_)
          refine Sx.sv F (Sx.d_move F (Or.inr rfl) rfl) (Sx.wanted_none rfl _) rfl (by decide) (fun A F => ?_)
          refine Sx.nil ?_
          refine hK35 _ _ ?_
          refine Sx.condF F rfl ?_
          refine Sx.seq (fun K36 hK36 => ?_)
          refine Sx.plain ?_
          refine Sx.sv F (Sx.d_bin (v := .bool false) F rfl rfl rfl (Sx.i_eq (beq_false_of_ne h3))) (Sx.wanted_none rfl _) rfl (by decide) (fun A F => ?_)
          refine Sx.sv F (Sx.d_move F (Or.inr rfl) rfl) (Sx.wanted_none rfl _) rfl (by decide) (fun A F => ?_)
          refine Sx.nil ?_
          refine hK36 _ _ ?_
          refine Sx.condF F rfl ?_
          refine wp_skip ?_
          refine hK31 _ _ ?_
          refine Sx.seq (fun K37 hK37 => ?_)
          refine Sx.plain ?_
          refine Sx.sv F (Sx.d_move F (Or.inr rfl) rfl) (Sx.wanted_none rfl _) rfl (by decide) (fun A F => ?_)
          refine Sx.sv F (Sx.d_move F (Or.inr rfl) rfl) (Sx.wanted_none rfl _) rfl (by decide) (fun A F => ?_)
          refine Sx.nil ?_
          refine hK37 _ _ ?_
          refine wp_ret ?_
          try dsimp only [Exit.then, Exit.inBlock, Exit.jump]
          refine Sx.ret2 F Try.results38 (Sx.res_tmp (v := .int .i64 0) F rfl) (Sx.res_tmp (v := .int .i64 0) F rfl) ?_
          unfold Tb.S.doh Tb.S.doe Tb.S.act
          rw [if_neg h0, if_neg h1, if_neg h0, if_neg h1, if_neg h2, if_neg h3, if_neg h0, if_neg h1, if_neg h2, if_neg h3]
          exact ⟨rfl, v, H.tailB⟩
theorem tdo_k (sT : Tb.S) (d h : Int) (hh : -9223372036854775808 ≤ h ∧ h ≤ 9223372036854775807) (x : BitVec 64) (hok : sT.ok) (tb : Nat) (v : Value) (w0 w : World) {bs : List Sx.Bx} {rs : List Sx.Rx} {K : Nat → Option Obj} (H : Sx.Own w0 w ((true, tb, [v, .int .i64 sT.n]) :: bs) (⟨true, v, 107, 2, sT.l.length, Tb.cells sT.l⟩ :: rs) K) : Calls Try.prog 38 #[.pointer (some ⟨tb, 0, none⟩), .agg #[.int .i64 d, .int .i64 h, .int .u64 x.toNat]] w fun e w' => e = .returned (.tuple #[.int .i64 (Tb.S.doh sT d h), .int .i64 (Tb.S.doe sT d h)]) ∧ ∃ v', Sx.Own w0 w' ((true, tb, [v', .int .i64 (Tb.S.act sT d h x).n]) :: bs) (⟨true, v', 107, 2, (Tb.S.act sT d h x).l.length, Tb.cells (Tb.S.act sT d h x).l⟩ :: rs) K := tdo_c sT hok d h hh x tb v w0 w bs rs H
end Go.Proofs.Ytpbdffmgendboab
