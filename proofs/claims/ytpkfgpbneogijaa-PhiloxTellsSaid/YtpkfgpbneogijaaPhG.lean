/- philox.Unmix. -/
import Derived.Test.YtpkfgpbneogijaaPhF
namespace Go.Proofs.Ytpkfgpbneogijaa
open Go Go.RowKit Go.Shelf

attribute [local go_sem] Oper.semAt_some

theorem box4_kept {A W : World} {b : Nat} {v0 v1 v2 v3 : Value} {row : Option Nat} (h : Box4 A b v0 v1 v2 v3) (hg : A.grownBy W row) (hr : ∀ r, row = some r → ∃ o : Obj, A.heap[r]? = some o ∧ o.isCells = false) : Box4 W b v0 v1 v2 v3 := by
  obtain ⟨⟨c0, c1, c2, c3⟩, ⟨f0, f1, f2, f3⟩⟩ := h
  exact ⟨⟨cell_kept c0 hg hr, cell_kept c1 hg hr, cell_kept c2 hg hr, cell_kept c3 hg hr⟩, ⟨(frozen_kept c0 hg hr).trans f0, (frozen_kept c1 hg hr).trans f1, (frozen_kept c2 hg hr).trans f2, (frozen_kept c3 hg hr).trans f3⟩⟩
theorem span_own {β : Type} {lo hi : Nat} {w : World} (hw : hi ≤ w.heap.size) : OwnFrom hi (fun (_ : β) W => Span lo hi w W) := fun _ A _ _ hs hg hr =>
  hs.trans ⟨hg.size, fun b _ hb => hg.block b (by have := hs.size; omega) (fun e => by have := (hr b e.symm).1; omega)⟩
theorem box4_alloc {A : World} {b : Nat} {v0 v1 v2 v3 : Value} (o : Obj) (h : Box4 A b v0 v1 v2 v3) : Box4 (A.alloc o) b v0 v1 v2 v3 :=
  box4_kept h (World.grownBy_alloc _ _ none) (fun _ e => by cases e)
theorem keeps_below {W W' : World} (h : Below W.heap.size W W') : KeepsOthers W W' :=
  ⟨h.size, fun k _ hk _ => (h.block k (Array.getElem?_eq_some_iff.1 hk).1).trans hk⟩
theorem Span.alloc {lo hi : Nat} {a w : World} (h : Span lo hi a w) (hs : hi ≤ a.heap.size) (o : Obj) : Span lo hi a (w.alloc o) :=
  h.trans ⟨by simp, fun b _ hb => Below.heap_alloc _ _ _ (by have := h.size; omega)⟩
theorem Span.below {lo hi : Nat} {a w w' : World} (h : Span lo hi a w) (hs : hi ≤ a.heap.size) (hb : Below w.heap.size w w') : Span lo hi a w' :=
  h.trans ⟨hb.size, fun b _ hh => hb.block b (by have := h.size; omega)⟩
theorem Span.setCell {lo hi : Nat} {a w : World} (h : Span lo hi a w) {p : Addr} (hp : p.block < lo) (u : Value) : Span lo hi a (w.setCell p u) :=
  h.trans ⟨by simp [World.setCell], fun b hl _ => Below.heap_setCell _ _ _ _ (by omega)⟩
def BoxS (W : World) (B : Nat → Nat) (n : Nat) (x : Fin n) (Bx : Nat) : Prop := W.heap[Bx]? = some (.cells #[fnF (B x.1), fnB (B x.1)] 78 (0, 0))
theorem rowcells {w : World} {lo : Nat} {e : TypeId} {v : Value} {n : Nat} {B : Nat → Nat} (h : w.ownsRow lo e 2 v n (fl B n)) :
    ∃ p cap, v = .slice p n cap ∧ n ≤ cap ∧ ∀ j, j < n → ∃ g, p = some ⟨g, 0, none⟩ ∧ lo ≤ g ∧ g < w.heap.size ∧ w.cell? ⟨g, j * 2, none⟩ = some (fnF (B j)) ∧ w.cell? ⟨g, j * 2 + 1, none⟩ = some (fnB (B j)) := by
  have h' := h
  rcases h.2 with ⟨rfl, rfl⟩ | ⟨g, cap, cur, rfl, hg, hgg, hc, _⟩
  · exact ⟨none, 0, rfl, by omega, fun j hj => by omega⟩
  · refine ⟨_, cap, rfl, hc, fun j hj => ⟨g, rfl, hg, (Array.getElem?_eq_some_iff.1 hgg).1, ?_, ?_⟩⟩
    · exact (World.ownsRow.cellAt h' (j * 2) (by omega)).trans (by rw [Nat.mul_comm]; exact (fl_at B n j hj).1)
    · exact (World.ownsRow.cellAt h' (j * 2 + 1) (by omega)).trans (by rw [Nat.mul_comm]; exact (fl_at B n j hj).2)

set_option maxRecDepth 100000 in
set_option maxHeartbeats 2000000 in
theorem unmix_ok (n : Nat) (hn : n ≤ 100) (b0 b1 b2 b3 k0 k1 : BitVec 32) (w : World) :
    Calls Try.prog 22 #[.agg #[.int .u32 b0.toNat, .int .u32 b1.toNat, .int .u32 b2.toNat, .int .u32 b3.toNat], .agg #[.int .u32 k0.toNat, .int .u32 k1.toNat], .int .i64 n] w fun e w' =>
      e = .returned (.tuple #[.agg #[.int .u32 (Ph.unmix n ⟨b0, b1, b2, b3⟩ ⟨k0, k1⟩).a.toNat, .int .u32 (Ph.unmix n ⟨b0, b1, b2, b3⟩ ⟨k0, k1⟩).b.toNat, .int .u32 (Ph.unmix n ⟨b0, b1, b2, b3⟩ ⟨k0, k1⟩).c.toNat, .int .u32 (Ph.unmix n ⟨b0, b1, b2, b3⟩ ⟨k0, k1⟩).d.toNat], .int .i64 0]) ∧ Below w.heap.size w w' := by
  refine (callsIn_wide (n := 6)).1 ?_
  have h1 : 1 ≤ 6 := by omega
  refine callsIn_of_wp_marks Try.func22 rfl trivial ?_ rfl
  simp only [Try.ntmps22, List.size_toArray, List.length_cons, List.length_nil, Nat.reduceAdd, Nat.reduceSub, Array.replicate_succ, Array.replicate_zero, List.push_toArray, List.append_toArray, List.nil_append, List.cons_append]
  gi_wp2_with fail
  refine ⟨trivial, ?_⟩
  refine (callsIn_wide.2 (steps_ok n hn _ _ _)).mono ?_
  rintro e w1 ⟨v, rfl, ⟨B, hkeys, hown⟩, hb1⟩
  have hz1 := hb1.size; (try simp at hz1)
  have kc1w_heap_size_0 : w1.cell? ⟨w.heap.size, 0, none⟩ = some (.int .u32 b0.toNat) := (hb1.cell (p := ⟨w.heap.size, 0, none⟩) (by first | omega | (simp; done) | (simp; omega))).trans (by go_simp); have kf1w_heap_size_0 : w1.frozen? ⟨w.heap.size, 0, none⟩ = false := (hb1.frozen (p := ⟨w.heap.size, 0, none⟩) (by first | omega | (simp; done) | (simp; omega))).trans (by go_simp); have kc1w_heap_size_1 : w1.cell? ⟨w.heap.size, 1, none⟩ = some (.int .u32 b1.toNat) := (hb1.cell (p := ⟨w.heap.size, 1, none⟩) (by first | omega | (simp; done) | (simp; omega))).trans (by go_simp); have kf1w_heap_size_1 : w1.frozen? ⟨w.heap.size, 1, none⟩ = false := (hb1.frozen (p := ⟨w.heap.size, 1, none⟩) (by first | omega | (simp; done) | (simp; omega))).trans (by go_simp); have kc1w_heap_size_2 : w1.cell? ⟨w.heap.size, 2, none⟩ = some (.int .u32 b2.toNat) := (hb1.cell (p := ⟨w.heap.size, 2, none⟩) (by first | omega | (simp; done) | (simp; omega))).trans (by go_simp); have kf1w_heap_size_2 : w1.frozen? ⟨w.heap.size, 2, none⟩ = false := (hb1.frozen (p := ⟨w.heap.size, 2, none⟩) (by first | omega | (simp; done) | (simp; omega))).trans (by go_simp); have kc1w_heap_size_3 : w1.cell? ⟨w.heap.size, 3, none⟩ = some (.int .u32 b3.toNat) := (hb1.cell (p := ⟨w.heap.size, 3, none⟩) (by first | omega | (simp; done) | (simp; omega))).trans (by go_simp); have kf1w_heap_size_3 : w1.frozen? ⟨w.heap.size, 3, none⟩ = false := (hb1.frozen (p := ⟨w.heap.size, 3, none⟩) (by first | omega | (simp; done) | (simp; omega))).trans (by go_simp)
  have kc1w_heap_size___1___1_0 : w1.cell? ⟨w.heap.size + 1 + 1, 0, none⟩ = some (.int .u32 0) := (hb1.cell (p := ⟨w.heap.size + 1 + 1, 0, none⟩) (by first | omega | (simp; done) | (simp; omega))).trans (by go_simp); have kf1w_heap_size___1___1_0 : w1.frozen? ⟨w.heap.size + 1 + 1, 0, none⟩ = false := (hb1.frozen (p := ⟨w.heap.size + 1 + 1, 0, none⟩) (by first | omega | (simp; done) | (simp; omega))).trans (by go_simp); have kc1w_heap_size___1___1_1 : w1.cell? ⟨w.heap.size + 1 + 1, 1, none⟩ = some (.int .u32 0) := (hb1.cell (p := ⟨w.heap.size + 1 + 1, 1, none⟩) (by first | omega | (simp; done) | (simp; omega))).trans (by go_simp); have kf1w_heap_size___1___1_1 : w1.frozen? ⟨w.heap.size + 1 + 1, 1, none⟩ = false := (hb1.frozen (p := ⟨w.heap.size + 1 + 1, 1, none⟩) (by first | omega | (simp; done) | (simp; omega))).trans (by go_simp); have kc1w_heap_size___1___1_2 : w1.cell? ⟨w.heap.size + 1 + 1, 2, none⟩ = some (.int .u32 0) := (hb1.cell (p := ⟨w.heap.size + 1 + 1, 2, none⟩) (by first | omega | (simp; done) | (simp; omega))).trans (by go_simp); have kf1w_heap_size___1___1_2 : w1.frozen? ⟨w.heap.size + 1 + 1, 2, none⟩ = false := (hb1.frozen (p := ⟨w.heap.size + 1 + 1, 2, none⟩) (by first | omega | (simp; done) | (simp; omega))).trans (by go_simp); have kc1w_heap_size___1___1_3 : w1.cell? ⟨w.heap.size + 1 + 1, 3, none⟩ = some (.int .u32 0) := (hb1.cell (p := ⟨w.heap.size + 1 + 1, 3, none⟩) (by first | omega | (simp; done) | (simp; omega))).trans (by go_simp); have kf1w_heap_size___1___1_3 : w1.frozen? ⟨w.heap.size + 1 + 1, 3, none⟩ = false := (hb1.frozen (p := ⟨w.heap.size + 1 + 1, 3, none⟩) (by first | omega | (simp; done) | (simp; omega))).trans (by go_simp)
  obtain ⟨p, cap, rfl, hcap, hrow⟩ := rowcells hown
  simp only [World.size_alloc] at hkeys hrow
  have hbw : Below w.heap.size w w1 := by (repeat' (first | (with_reducible exact Below.refl _ _) | (with_reducible assumption) | (with_reducible refine Below.alloc ?_ ?_ _) | (with_reducible refine Below.drew ?_) | (with_reducible refine below_drewN ?_ _) | (with_reducible refine Below.setCell ?_ ?_ _) | (with_reducible refine Below.trans ?_ (Below.mono (by assumption) ?_)) | go_size))
  have HK := Lib.hid hkeys
  have HR := Lib.hid hrow
  have HB := Lib.hid hbw
  clear hown hkeys hrow hb1 hbw
  gi_wp2_with fail
  refine ⟨trivial, ?_⟩
  refine (backward_in Fence.wide 5 trivial rfl _ _ _ _).mono ?_
  rintro e w2 ⟨rfl, rfl⟩
  gi_wp2_with fail
  have hwl : (w1.alloc (.cells #[.slice p n cap] 73)).heap.size = w1.heap.size + 1 := by simp
  refine wpIn_rangeFunc_ownH rfl h1 (gf := 60) (lb := #[.pointer (some ⟨w1.heap.size, 0, none⟩)]) rfl trivial (enters_of Try.func60 (by kernel_rfl) rfl)
    (backward_stops Fence.wide 5 trivial rfl (by omega) w1.heap.size (w.heap.size + 1 + 1 + 1) n p cap B hn hcap (w1.alloc (.cells #[.slice p n cap] 73)) hz1 (by simp) (by go_simp) ?hc) (fun h k => h.trans k)
    (fun W l o o' hl _ _ _ => ⟨by simp, fun b _ hb => World.putObj_heap_other (by omega)⟩) (Below.refl _ _) (fun _ => rfl)
    (fun pre W => (Box4 W w.heap.size (.int .u32 (pre.foldl (unfold1 ⟨k0, k1⟩) ⟨b0, b1, b2, b3⟩).a.toNat) (.int .u32 (pre.foldl (unfold1 ⟨k0, k1⟩) ⟨b0, b1, b2, b3⟩).b.toNat) (.int .u32 (pre.foldl (unfold1 ⟨k0, k1⟩) ⟨b0, b1, b2, b3⟩).c.toNat) (.int .u32 (pre.foldl (unfold1 ⟨k0, k1⟩) ⟨b0, b1, b2, b3⟩).d.toNat) ∧ Box4 W (w.heap.size + 1 + 1) (.int .u32 0) (.int .u32 0) (.int .u32 0) (.int .u32 0)) ∧
      Span (w.heap.size + 1 + 1 + 1) (w1.alloc (.cells #[.slice p n cap] 73)).heap.size (w1.alloc (.cells #[.slice p n cap] 73)) W ∧ Below w.heap.size w W)
    (fun _ _ _ => False)
    (OwnFrom.and (Own.from (fun s A B' row hs hg hr => ⟨box4_kept hs.1 hg hr, box4_kept hs.2 hg hr⟩) _) (OwnFrom.and (span_own (Nat.le_refl _)) (ownFrom_below (Nat.le_refl _) (by simp; omega))))
    (fun _ _ _ _ _ hs _ _ => hs)
    ⟨⟨box4_alloc _ ⟨⟨by assumption, by assumption, by assumption, by assumption⟩, ⟨by assumption, by assumption, by assumption, by assumption⟩⟩, box4_alloc _ ⟨⟨by assumption, by assumption, by assumption, by assumption⟩, ⟨by assumption, by assumption, by assumption, by assumption⟩⟩⟩, Span.refl _ _ _, HB.out.alloc (by omega) _⟩
    (fun x a' W => ∃ Bx, BoxS W B n x Bx ∧ w1.heap.size + 1 ≤ Bx ∧ a' = { tmps := #[.agg #[.int .u32 b0.toNat, .int .u32 b1.toNat, .int .u32 b2.toNat, .int .u32 b3.toNat], .agg #[.int .u32 k0.toNat, .int .u32 k1.toNat], .int .i64 n, .pointer (some ⟨w.heap.size, 0, none⟩), .pointer (some ⟨w.heap.size + 1, 0, none⟩), undef, .pointer (some ⟨w.heap.size + 1 + 1, 0, none⟩), .int .i64 0, .slice p n cap, .int .i64 0, undef, .pointer (some ⟨Bx, 0, none⟩), .tuple #[.slice p n cap, .int .i64 0], .agg #[.int .u32 k0.toNat, .int .u32 k1.toNat], .int .i64 n, .tuple #[.slice p n cap, .int .i64 0], .slice p n cap, .int .i64 0, .int .i64 0, .bool false, undef, undef, .slice p n cap, .func (.func 60) #[] #[.pointer (some ⟨w1.heap.size, 0, none⟩)], .int .i64 (x.1 : Nat), .agg #[fnF (B x.1), fnB (B x.1)], undef, undef, undef, undef, undef], defers := [] })
    (fun x a' _ W W' row hs hg hr => by
      obtain ⟨Bx, hB, hge, e⟩ := hs
      refine ⟨Bx, (hg.block Bx (Array.getElem?_eq_some_iff.1 hB).1 ?_).trans hB, hge, e⟩
      intro e'
      obtain ⟨_, o, ho, hoc⟩ := hr Bx e'.symm
      rw [show W.heap[Bx]? = _ from hB] at ho
      cases ho; cases hoc) ?assign ?body ?done ?stop
  case hc =>
    intro j hj
    obtain ⟨g, e, h2, h3, h4, h5⟩ := HR.out j hj
    exact ⟨g, e, by omega, by simp; omega, (World.cell?_alloc_lt _ _ _ h3).trans h4, (World.cell?_alloc_lt _ _ _ h3).trans h5⟩
  case assign =>
    intro l pre x W K hi hK
    have hsz := hi.2.1.size
    rw [hwl] at hsz
    unfold encB fnF fnB
    gi_wp2
    exact hK _ _ ((KeepsOthers.alloc _ _).from _) ((Span.refl _ _ W).trans ⟨by simp, fun b _ hb => Below.heap_alloc _ _ _ (by rw [hwl] at hb; omega)⟩)
      ⟨⟨box4_alloc _ hi.1.1, box4_alloc _ hi.1.2⟩, hi.2.1.alloc (Nat.le_refl _) _, hi.2.2.alloc hi.2.2.size _⟩ ⟨W.heap.size, World.alloc_heap_new W _, hsz, rfl⟩
  case body =>
    rintro l pre x a' W hl ⟨r, hr⟩ ⟨⟨hb4, hz4⟩, hsp, hbe⟩ ⟨Bx, hBx, hge, rfl⟩ hlt
    obtain ⟨y, hy⟩ : ∃ y, pre.foldl (unfold1 ⟨k0, k1⟩) ⟨b0, b1, b2, b3⟩ = y := ⟨_, rfl⟩
    have hy2 : (pre ++ [x]).foldl (unfold1 ⟨k0, k1⟩) ⟨b0, b1, b2, b3⟩ = Ph.unround y (Ph.keyAt x.1 ⟨k0, k1⟩) := by rw [List.foldl_append, hy]; rfl
    rw [hy] at hb4
    obtain ⟨z, hz⟩ : ∃ z, Ph.keyAt x.1 ⟨k0, k1⟩ = z := ⟨_, rfl⟩
    rw [hz] at hy2
    obtain ⟨hKl, hKh⟩ := HK.out x.1 x.2
    rw [hz] at hKh
    obtain ⟨y0, y1, y2, y3⟩ := y
    obtain ⟨z0, z1⟩ := z
    have hKs := (Array.getElem?_eq_some_iff.1 hKh).1
    have hKW : W.heap[B x.1]? = some (.cells #[.int .u32 z0.toNat, .int .u32 z1.toNat] 26 (0, 0)) :=
      (hsp.block _ (by omega) (by rw [hwl]; omega)).trans ((Below.heap_alloc _ _ _ hKs).trans hKh)
    have key0 : W.cell? ⟨B x.1, 0, none⟩ = some (.int .u32 z0.toNat) := by rw [cell_of_row _ _ _ _ _ _ hKW]; rfl
    have key1 : W.cell? ⟨B x.1, 1, none⟩ = some (.int .u32 z1.toNat) := by rw [cell_of_row _ _ _ _ _ _ hKW]; rfl
    have cB : W.cell? ⟨Bx, 1, none⟩ = some (.func (.func 59) #[] #[.pointer (some ⟨B x.1, 0, none⟩)]) := by rw [cell_of_row _ _ _ _ _ _ hBx]; rfl
    have hBs := (Array.getElem?_eq_some_iff.1 hBx).1
    have hsz := hsp.size
    rw [hwl] at hsz
    obtain ⟨⟨c0, c1, c2, c3⟩, ⟨f0, f1, f2, f3⟩⟩ := hb4
    have HSP := Lib.hid hsp
    have HBE := Lib.hid hbe
    have HZ4 := Lib.hid hz4
    have HY := Lib.hid hy2
    clear hKW hKh hy hz hr hsp hbe hz4 hy2 hBx
    gi_wp2_with fail
    refine ⟨trivial, ?_⟩
    refine (CallsIn.inRound l (callsIn_wide.2 (back_c _ _ _ _ z0 z1 (B x.1) _ key0 key1))).mono ?_
    rintro e w3 ⟨rfl, hb3⟩
    obtain ⟨⟨r0, r1, r2, r3⟩, ⟨s0, s1, s2, s3⟩⟩ := HZ4.out
    have hz3 := hb3.size; (try simp at hz3)
    have kc3w_heap_size_0 : w3.cell? ⟨w.heap.size, 0, none⟩ = some (.int .u32 y0.toNat) := (hb3.cell (p := ⟨w.heap.size, 0, none⟩) (by first | omega | (simp; done) | (simp; omega))).trans (by go_simp); have kf3w_heap_size_0 : w3.frozen? ⟨w.heap.size, 0, none⟩ = false := (hb3.frozen (p := ⟨w.heap.size, 0, none⟩) (by first | omega | (simp; done) | (simp; omega))).trans (by go_simp); have kc3w_heap_size_1 : w3.cell? ⟨w.heap.size, 1, none⟩ = some (.int .u32 y1.toNat) := (hb3.cell (p := ⟨w.heap.size, 1, none⟩) (by first | omega | (simp; done) | (simp; omega))).trans (by go_simp); have kf3w_heap_size_1 : w3.frozen? ⟨w.heap.size, 1, none⟩ = false := (hb3.frozen (p := ⟨w.heap.size, 1, none⟩) (by first | omega | (simp; done) | (simp; omega))).trans (by go_simp); have kc3w_heap_size_2 : w3.cell? ⟨w.heap.size, 2, none⟩ = some (.int .u32 y2.toNat) := (hb3.cell (p := ⟨w.heap.size, 2, none⟩) (by first | omega | (simp; done) | (simp; omega))).trans (by go_simp); have kf3w_heap_size_2 : w3.frozen? ⟨w.heap.size, 2, none⟩ = false := (hb3.frozen (p := ⟨w.heap.size, 2, none⟩) (by first | omega | (simp; done) | (simp; omega))).trans (by go_simp); have kc3w_heap_size_3 : w3.cell? ⟨w.heap.size, 3, none⟩ = some (.int .u32 y3.toNat) := (hb3.cell (p := ⟨w.heap.size, 3, none⟩) (by first | omega | (simp; done) | (simp; omega))).trans (by go_simp); have kf3w_heap_size_3 : w3.frozen? ⟨w.heap.size, 3, none⟩ = false := (hb3.frozen (p := ⟨w.heap.size, 3, none⟩) (by first | omega | (simp; done) | (simp; omega))).trans (by go_simp)
    have kc3w_heap_size___1___1_0 : w3.cell? ⟨w.heap.size + 1 + 1, 0, none⟩ = some (.int .u32 0) := (hb3.cell (p := ⟨w.heap.size + 1 + 1, 0, none⟩) (by first | omega | (simp; done) | (simp; omega))).trans (by go_simp); have kf3w_heap_size___1___1_0 : w3.frozen? ⟨w.heap.size + 1 + 1, 0, none⟩ = false := (hb3.frozen (p := ⟨w.heap.size + 1 + 1, 0, none⟩) (by first | omega | (simp; done) | (simp; omega))).trans (by go_simp); have kc3w_heap_size___1___1_1 : w3.cell? ⟨w.heap.size + 1 + 1, 1, none⟩ = some (.int .u32 0) := (hb3.cell (p := ⟨w.heap.size + 1 + 1, 1, none⟩) (by first | omega | (simp; done) | (simp; omega))).trans (by go_simp); have kf3w_heap_size___1___1_1 : w3.frozen? ⟨w.heap.size + 1 + 1, 1, none⟩ = false := (hb3.frozen (p := ⟨w.heap.size + 1 + 1, 1, none⟩) (by first | omega | (simp; done) | (simp; omega))).trans (by go_simp); have kc3w_heap_size___1___1_2 : w3.cell? ⟨w.heap.size + 1 + 1, 2, none⟩ = some (.int .u32 0) := (hb3.cell (p := ⟨w.heap.size + 1 + 1, 2, none⟩) (by first | omega | (simp; done) | (simp; omega))).trans (by go_simp); have kf3w_heap_size___1___1_2 : w3.frozen? ⟨w.heap.size + 1 + 1, 2, none⟩ = false := (hb3.frozen (p := ⟨w.heap.size + 1 + 1, 2, none⟩) (by first | omega | (simp; done) | (simp; omega))).trans (by go_simp); have kc3w_heap_size___1___1_3 : w3.cell? ⟨w.heap.size + 1 + 1, 3, none⟩ = some (.int .u32 0) := (hb3.cell (p := ⟨w.heap.size + 1 + 1, 3, none⟩) (by first | omega | (simp; done) | (simp; omega))).trans (by go_simp); have kf3w_heap_size___1___1_3 : w3.frozen? ⟨w.heap.size + 1 + 1, 3, none⟩ = false := (hb3.frozen (p := ⟨w.heap.size + 1 + 1, 3, none⟩) (by first | omega | (simp; done) | (simp; omega))).trans (by go_simp)
    gi_wp2
    have hbe := HBE.out
    have hk : KeepsOthers W w3 := keeps_below hb3
    refine ⟨((((hk.trans (KeepsOthers.setCell _ _ _)).trans (KeepsOthers.setCell _ _ _)).trans (KeepsOthers.setCell _ _ _)).trans (KeepsOthers.setCell _ _ _)).from _,
      (((((Span.refl _ _ W).below (by rw [hwl]; exact hsz) hb3).setCell (by simp; omega) _).setCell (by simp; omega) _).setCell (by simp; omega) _).setCell (by simp; omega) _,
      ⟨?_, ⟨by go_simp, by go_simp, by go_simp, by go_simp⟩, ⟨by go_simp, by go_simp, by go_simp, by go_simp⟩⟩,
      ((((HSP.out.below (Nat.le_refl _) hb3).setCell (by simp; omega) _).setCell (by simp; omega) _).setCell (by simp; omega) _).setCell (by simp; omega) _, by (repeat' (first | (with_reducible exact Below.refl _ _) | (with_reducible assumption) | (with_reducible refine Below.alloc ?_ ?_ _) | (with_reducible refine Below.drew ?_) | (with_reducible refine below_drewN ?_ _) | (with_reducible refine Below.setCell ?_ ?_ _) | (with_reducible refine Below.trans ?_ (Below.mono (by assumption) ?_)) | go_size))⟩
    rw [HY.out]
    exact ⟨⟨by go_simp, by go_simp, by go_simp, by go_simp⟩, ⟨by go_simp, by go_simp, by go_simp, by go_simp⟩⟩
  case done =>
    rintro D ys W hD rfl ⟨⟨hb4, hz4⟩, hsp, hbe⟩ hK
    rw [came_fold] at hb4
    obtain ⟨⟨c0, c1, c2, c3⟩, ⟨f0, f1, f2, f3⟩⟩ := hb4
    obtain ⟨⟨r0, r1, r2, r3⟩, ⟨s0, s1, s2, s3⟩⟩ := hz4
    gi_wp2
    have q0 : ((((W.setCell ⟨w.heap.size + 1 + 1, 0, none⟩ (.int .u32 (Ph.unmixTo n ⟨b0, b1, b2, b3⟩ ⟨k0, k1⟩ n).a.toNat)).setCell ⟨w.heap.size + 1 + 1, 1, none⟩ (.int .u32 (Ph.unmixTo n ⟨b0, b1, b2, b3⟩ ⟨k0, k1⟩ n).b.toNat)).setCell ⟨w.heap.size + 1 + 1, 2, none⟩ (.int .u32 (Ph.unmixTo n ⟨b0, b1, b2, b3⟩ ⟨k0, k1⟩ n).c.toNat)).setCell ⟨w.heap.size + 1 + 1, 3, none⟩ (.int .u32 (Ph.unmixTo n ⟨b0, b1, b2, b3⟩ ⟨k0, k1⟩ n).d.toNat)).cell? ⟨w.heap.size + 1 + 1, 0, none⟩ = some (.int .u32 (Ph.unmixTo n ⟨b0, b1, b2, b3⟩ ⟨k0, k1⟩ n).a.toNat) := by go_simp
    have q1 : ((((W.setCell ⟨w.heap.size + 1 + 1, 0, none⟩ (.int .u32 (Ph.unmixTo n ⟨b0, b1, b2, b3⟩ ⟨k0, k1⟩ n).a.toNat)).setCell ⟨w.heap.size + 1 + 1, 1, none⟩ (.int .u32 (Ph.unmixTo n ⟨b0, b1, b2, b3⟩ ⟨k0, k1⟩ n).b.toNat)).setCell ⟨w.heap.size + 1 + 1, 2, none⟩ (.int .u32 (Ph.unmixTo n ⟨b0, b1, b2, b3⟩ ⟨k0, k1⟩ n).c.toNat)).setCell ⟨w.heap.size + 1 + 1, 3, none⟩ (.int .u32 (Ph.unmixTo n ⟨b0, b1, b2, b3⟩ ⟨k0, k1⟩ n).d.toNat)).cell? ⟨w.heap.size + 1 + 1, 1, none⟩ = some (.int .u32 (Ph.unmixTo n ⟨b0, b1, b2, b3⟩ ⟨k0, k1⟩ n).b.toNat) := by go_simp
    have q2 : ((((W.setCell ⟨w.heap.size + 1 + 1, 0, none⟩ (.int .u32 (Ph.unmixTo n ⟨b0, b1, b2, b3⟩ ⟨k0, k1⟩ n).a.toNat)).setCell ⟨w.heap.size + 1 + 1, 1, none⟩ (.int .u32 (Ph.unmixTo n ⟨b0, b1, b2, b3⟩ ⟨k0, k1⟩ n).b.toNat)).setCell ⟨w.heap.size + 1 + 1, 2, none⟩ (.int .u32 (Ph.unmixTo n ⟨b0, b1, b2, b3⟩ ⟨k0, k1⟩ n).c.toNat)).setCell ⟨w.heap.size + 1 + 1, 3, none⟩ (.int .u32 (Ph.unmixTo n ⟨b0, b1, b2, b3⟩ ⟨k0, k1⟩ n).d.toNat)).cell? ⟨w.heap.size + 1 + 1, 2, none⟩ = some (.int .u32 (Ph.unmixTo n ⟨b0, b1, b2, b3⟩ ⟨k0, k1⟩ n).c.toNat) := by go_simp
    have q3 : ((((W.setCell ⟨w.heap.size + 1 + 1, 0, none⟩ (.int .u32 (Ph.unmixTo n ⟨b0, b1, b2, b3⟩ ⟨k0, k1⟩ n).a.toNat)).setCell ⟨w.heap.size + 1 + 1, 1, none⟩ (.int .u32 (Ph.unmixTo n ⟨b0, b1, b2, b3⟩ ⟨k0, k1⟩ n).b.toNat)).setCell ⟨w.heap.size + 1 + 1, 2, none⟩ (.int .u32 (Ph.unmixTo n ⟨b0, b1, b2, b3⟩ ⟨k0, k1⟩ n).c.toNat)).setCell ⟨w.heap.size + 1 + 1, 3, none⟩ (.int .u32 (Ph.unmixTo n ⟨b0, b1, b2, b3⟩ ⟨k0, k1⟩ n).d.toNat)).cell? ⟨w.heap.size + 1 + 1, 3, none⟩ = some (.int .u32 (Ph.unmixTo n ⟨b0, b1, b2, b3⟩ ⟨k0, k1⟩ n).d.toNat) := by go_simp
    have hbF : Below w.heap.size w ((((W.setCell ⟨w.heap.size + 1 + 1, 0, none⟩ (.int .u32 (Ph.unmixTo n ⟨b0, b1, b2, b3⟩ ⟨k0, k1⟩ n).a.toNat)).setCell ⟨w.heap.size + 1 + 1, 1, none⟩ (.int .u32 (Ph.unmixTo n ⟨b0, b1, b2, b3⟩ ⟨k0, k1⟩ n).b.toNat)).setCell ⟨w.heap.size + 1 + 1, 2, none⟩ (.int .u32 (Ph.unmixTo n ⟨b0, b1, b2, b3⟩ ⟨k0, k1⟩ n).c.toNat)).setCell ⟨w.heap.size + 1 + 1, 3, none⟩ (.int .u32 (Ph.unmixTo n ⟨b0, b1, b2, b3⟩ ⟨k0, k1⟩ n).d.toNat)) := (((hbe.setCell (by simp; omega) _).setCell (by simp; omega) _).setCell (by simp; omega) _).setCell (by simp; omega) _
    have hKF' : ((((W.setCell ⟨w.heap.size + 1 + 1, 0, none⟩ (.int .u32 (Ph.unmixTo n ⟨b0, b1, b2, b3⟩ ⟨k0, k1⟩ n).a.toNat)).setCell ⟨w.heap.size + 1 + 1, 1, none⟩ (.int .u32 (Ph.unmixTo n ⟨b0, b1, b2, b3⟩ ⟨k0, k1⟩ n).b.toNat)).setCell ⟨w.heap.size + 1 + 1, 2, none⟩ (.int .u32 (Ph.unmixTo n ⟨b0, b1, b2, b3⟩ ⟨k0, k1⟩ n).c.toNat)).setCell ⟨w.heap.size + 1 + 1, 3, none⟩ (.int .u32 (Ph.unmixTo n ⟨b0, b1, b2, b3⟩ ⟨k0, k1⟩ n).d.toNat)).heap[D]? = some (.deferred (some [])) := ((((KeepsOthers.setCell W _ _).trans (KeepsOthers.setCell _ _ _)).trans (KeepsOthers.setCell _ _ _)).trans (KeepsOthers.setCell _ _ _)).same D _ hK rfl
    generalize ((((W.setCell ⟨w.heap.size + 1 + 1, 0, none⟩ (.int .u32 (Ph.unmixTo n ⟨b0, b1, b2, b3⟩ ⟨k0, k1⟩ n).a.toNat)).setCell ⟨w.heap.size + 1 + 1, 1, none⟩ (.int .u32 (Ph.unmixTo n ⟨b0, b1, b2, b3⟩ ⟨k0, k1⟩ n).b.toNat)).setCell ⟨w.heap.size + 1 + 1, 2, none⟩ (.int .u32 (Ph.unmixTo n ⟨b0, b1, b2, b3⟩ ⟨k0, k1⟩ n).c.toNat)).setCell ⟨w.heap.size + 1 + 1, 3, none⟩ (.int .u32 (Ph.unmixTo n ⟨b0, b1, b2, b3⟩ ⟨k0, k1⟩ n).d.toNat)) = wf at q0 q1 q2 q3 hbF hKF' ⊢
    have p0 := cell_kept q0 (grownBy_putObj' _ D (.deferred none)) (fun r e => by cases e; exact ⟨_, hKF', rfl⟩)
    have p1 := cell_kept q1 (grownBy_putObj' _ D (.deferred none)) (fun r e => by cases e; exact ⟨_, hKF', rfl⟩)
    have p2 := cell_kept q2 (grownBy_putObj' _ D (.deferred none)) (fun r e => by cases e; exact ⟨_, hKF', rfl⟩)
    have p3 := cell_kept q3 (grownBy_putObj' _ D (.deferred none)) (fun r e => by cases e; exact ⟨_, hKF', rfl⟩)
    refine ⟨by simp, .inl ⟨_, _, rfl, run_takeDeferred hKF', ?_⟩⟩
    refine ⟨.tuple #[.agg #[.int .u32 (Ph.unmixTo n ⟨b0, b1, b2, b3⟩ ⟨k0, k1⟩ n).a.toNat, .int .u32 (Ph.unmixTo n ⟨b0, b1, b2, b3⟩ ⟨k0, k1⟩ n).b.toNat, .int .u32 (Ph.unmixTo n ⟨b0, b1, b2, b3⟩ ⟨k0, k1⟩ n).c.toNat, .int .u32 (Ph.unmixTo n ⟨b0, b1, b2, b3⟩ ⟨k0, k1⟩ n).d.toNat], .int .i64 0], by simp [results, Try.results22, go_sem, p0, p1, p2, p3], rfl, hbF.trans (belowK_b (w := w) (Nat.le_refl _) _ D _ _ (by simp at hD; omega) hKF' rfl rfl)⟩
  case stop =>
    rintro D c pre W _ _ h _
    exact h.elim
end Go.Proofs.Ytpkfgpbneogijaa
