/- XoshLinear, walked. -/
import Derived.Test.YtpkfgpbneogijaaXoE
namespace Go.Proofs.Ytpkfgpbneogijaa
open Go Go.RowKit

theorem row_any {w : World} {lo : Nat} {e : TypeId} {v : Value} {n : Nat} {xs : List Value} (h : w.ownsRow lo e 1 v n xs) :
    ∃ p cap, v = .slice p n cap ∧ n ≤ cap ∧ cap ≤ maxLen ∧ ∀ j, j < n → ∃ g, p = some ⟨g, 0, none⟩ ∧ g < w.heap.size ∧ w.cell? ⟨g, j, none⟩ = xs[j]? := by
  rcases row_form h with ⟨rfl, rfl⟩ | ⟨g, cap, rfl, _, hg, hc, hm, hcell⟩
  · exact ⟨none, 0, rfl, by omega, by simp [maxLen], fun j hj => by omega⟩
  · exact ⟨_, cap, rfl, hc, hm, fun j hj => ⟨g, rfl, hg, hcell j hj⟩⟩
theorem Xo.bit_add (x y : BitVec 64) : ((((x ^^^ y).toNat : Nat) : Int) % 2 == 1) = ((((x.toNat : Nat) : Int) % 2 == 1) != (((y.toNat : Nat) : Int) % 2 == 1)) := by
  have h := @Nat.xor_mod_two_eq_one x.toNat y.toNat
  rw [BitVec.toNat_xor]
  have h1 : ((((x.toNat ^^^ y.toNat) : Nat) : Int) % 2 == 1) = decide ((x.toNat ^^^ y.toNat) % 2 = 1) := by
    rw [Bool.beq_eq_decide_eq]; congr 1; apply propext; omega
  have h2 : ∀ a : Nat, ((((a : Nat) : Int) % 2 == 1)) = decide (a % 2 = 1) := by
    intro a; rw [Bool.beq_eq_decide_eq]; congr 1; apply propext; omega
  rw [h1, h2, h2]
  by_cases ha : x.toNat % 2 = 1 <;> by_cases hb : y.toNat % 2 = 1 <;> simp_all
theorem Xo.bits_lin (n j : Nat) (hj : j < n) (s t : St) : (Xo.bitsL n (Xo.add s t))[j]'(by rw [Xo.bits_length]; exact hj) = ((Xo.bitsL n s)[j]'(by rw [Xo.bits_length]; exact hj) != (Xo.bitsL n t)[j]'(by rw [Xo.bits_length]; exact hj)) := by
  simp only [Xo.bitsL, List.getElem_map, List.getElem_range, Xo.it_lin]
  exact Xo.bit_add _ _

set_option maxRecDepth 100000 in
set_option maxHeartbeats 2000000 in
theorem xoshLinear_walk (s0 s1 s2 s3 t0 t1 t2 t3 : BitVec 64) (many : Nat) (hm : many < 256) (w : World) :
    Calls Try.prog 9 #[.agg #[.int .u64 s0.toNat, .int .u64 s1.toNat, .int .u64 s2.toNat, .int .u64 s3.toNat], .agg #[.int .u64 t0.toNat, .int .u64 t1.toNat, .int .u64 t2.toNat, .int .u64 t3.toNat], .int .u8 many] w fun e w' => e = .returned (.bool true) ∧ Below w.heap.size w w' := by
  obtain ⟨n, hn⟩ : ∃ n, many % 41 = n := ⟨_, rfl⟩
  have hn40 : n ≤ 40 := by omega
  have hn' : (many : Int) % 41 = (n : Int) := by omega
  have hT : Int.tmod (many : Int) 41 = (n : Int) := by rw [Int.tmod_eq_emod_of_nonneg (by omega)]; exact hn'
  obtain ⟨u, hu⟩ : ∃ u, Xo.add ⟨s0, s1, s2, s3⟩ ⟨t0, t1, t2, t3⟩ = u := ⟨_, rfl⟩
  obtain ⟨x, hx⟩ : ∃ x, Xo.step ⟨s0, s1, s2, s3⟩ = x := ⟨_, rfl⟩
  obtain ⟨y, hy⟩ : ∃ y, Xo.step ⟨t0, t1, t2, t3⟩ = y := ⟨_, rfl⟩
  obtain ⟨z, hz⟩ : ∃ z, Xo.step u = z := ⟨_, rfl⟩
  obtain ⟨la, hla⟩ : ∃ la, Xo.bitsL n ⟨s0, s1, s2, s3⟩ = la := ⟨_, rfl⟩
  obtain ⟨lb, hlb⟩ : ∃ lb, Xo.bitsL n ⟨t0, t1, t2, t3⟩ = lb := ⟨_, rfl⟩
  obtain ⟨lc, hlc⟩ : ∃ lc, Xo.bitsL n u = lc := ⟨_, rfl⟩
  have hna : la.length = n := by rw [← hla, Xo.bits_length]
  have hnb : lb.length = n := by rw [← hlb, Xo.bits_length]
  have hnc : lc.length = n := by rw [← hlc, Xo.bits_length]
  have HX : ∀ j (hj : j < n), lc[j]'(by omega) = (la[j]'(by omega) != lb[j]'(by omega)) := by
    intro j hj
    subst hla; subst hlb; subst hlc; subst hu
    exact Xo.bits_lin n j hj _ _
  obtain ⟨x0, x1, x2, x3⟩ := x
  obtain ⟨y0, y1, y2, y3⟩ := y
  obtain ⟨z0, z1, z2, z3⟩ := z
  obtain ⟨u0, u1, u2, u3⟩ := u
  have C1 : ∀ w, Calls Try.prog 31 #[.agg #[.int .u64 s0.toNat, .int .u64 s1.toNat, .int .u64 s2.toNat, .int .u64 s3.toNat], .int .i64 n] w fun e w' => ∃ v, e = .returned (.tuple #[v, .int .i64 0]) ∧ w'.ownsRow (w.heap.size + 1) 4 1 v n (bools la) ∧ Below w.heap.size w w' := by
    intro w; have h := xbits_ok n (by omega) s0 s1 s2 s3 w; unfold BitsPost at h; rw [hla] at h; exact h
  have C2 : ∀ w, Calls Try.prog 31 #[.agg #[.int .u64 t0.toNat, .int .u64 t1.toNat, .int .u64 t2.toNat, .int .u64 t3.toNat], .int .i64 n] w fun e w' => ∃ v, e = .returned (.tuple #[v, .int .i64 0]) ∧ w'.ownsRow (w.heap.size + 1) 4 1 v n (bools lb) ∧ Below w.heap.size w w' := by
    intro w; have h := xbits_ok n (by omega) t0 t1 t2 t3 w; unfold BitsPost at h; rw [hlb] at h; exact h
  have C3 : ∀ w, Calls Try.prog 31 #[.agg #[.int .u64 u0.toNat, .int .u64 u1.toNat, .int .u64 u2.toNat, .int .u64 u3.toNat], .int .i64 n] w fun e w' => ∃ v, e = .returned (.tuple #[v, .int .i64 0]) ∧ w'.ownsRow (w.heap.size + 1) 4 1 v n (bools lc) ∧ Below w.heap.size w w' := by
    intro w; have h := xbits_ok n (by omega) u0 u1 u2 u3 w; unfold BitsPost at h; rw [hlc] at h; exact h
  have C4 : ∀ w, Calls Try.prog 35 #[.agg #[.int .u64 s0.toNat, .int .u64 s1.toNat, .int .u64 s2.toNat, .int .u64 s3.toNat], .agg #[.int .u64 t0.toNat, .int .u64 t1.toNat, .int .u64 t2.toNat, .int .u64 t3.toNat]] w fun e w' => e = .returned (.agg #[.int .u64 u0.toNat, .int .u64 u1.toNat, .int .u64 u2.toNat, .int .u64 u3.toNat]) ∧ Below w.heap.size w w' := by
    intro w; have h := xadd_c s0 s1 s2 s3 t0 t1 t2 t3 w; rw [hu] at h; exact h
  have C5 : ∀ w, Calls Try.prog 35 #[.agg #[.int .u64 t0.toNat, .int .u64 t1.toNat, .int .u64 t2.toNat, .int .u64 t3.toNat], .agg #[.int .u64 s0.toNat, .int .u64 s1.toNat, .int .u64 s2.toNat, .int .u64 s3.toNat]] w fun e w' => e = .returned (.agg #[.int .u64 u0.toNat, .int .u64 u1.toNat, .int .u64 u2.toNat, .int .u64 u3.toNat]) ∧ Below w.heap.size w w' := by
    intro w; have h := xadd_c t0 t1 t2 t3 s0 s1 s2 s3 w; rw [Xo.add_comm, hu] at h; exact h
  have C6 : ∀ w, Calls Try.prog 35 #[.agg #[.int .u64 u0.toNat, .int .u64 u1.toNat, .int .u64 u2.toNat, .int .u64 u3.toNat], .agg #[.int .u64 t0.toNat, .int .u64 t1.toNat, .int .u64 t2.toNat, .int .u64 t3.toNat]] w fun e w' => e = .returned (.agg #[.int .u64 s0.toNat, .int .u64 s1.toNat, .int .u64 s2.toNat, .int .u64 s3.toNat]) ∧ Below w.heap.size w w' := by
    intro w; have h := xadd_c u0 u1 u2 u3 t0 t1 t2 t3 w; rw [← hu, Xo.add_add] at h; exact h
  have C7 : ∀ w, Calls Try.prog 35 #[.agg #[.int .u64 x0.toNat, .int .u64 x1.toNat, .int .u64 x2.toNat, .int .u64 x3.toNat], .agg #[.int .u64 y0.toNat, .int .u64 y1.toNat, .int .u64 y2.toNat, .int .u64 y3.toNat]] w fun e w' => e = .returned (.agg #[.int .u64 z0.toNat, .int .u64 z1.toNat, .int .u64 z2.toNat, .int .u64 z3.toNat]) ∧ Below w.heap.size w w' := by
    intro w; have h := xadd_c x0 x1 x2 x3 y0 y1 y2 y3 w; rw [← hx, ← hy, ← Xo.step_add, hu, hz] at h; exact h
  have C8 : ∀ w, Calls Try.prog 27 #[.agg #[.int .u64 s0.toNat, .int .u64 s1.toNat, .int .u64 s2.toNat, .int .u64 s3.toNat]] w fun e w' => e = .returned (.agg #[.int .u64 x0.toNat, .int .u64 x1.toNat, .int .u64 x2.toNat, .int .u64 x3.toNat]) ∧ Below w.heap.size w w' := by
    intro w; have h := xstep_c s0 s1 s2 s3 w; rw [hx] at h; exact h
  have C9 : ∀ w, Calls Try.prog 27 #[.agg #[.int .u64 t0.toNat, .int .u64 t1.toNat, .int .u64 t2.toNat, .int .u64 t3.toNat]] w fun e w' => e = .returned (.agg #[.int .u64 y0.toNat, .int .u64 y1.toNat, .int .u64 y2.toNat, .int .u64 y3.toNat]) ∧ Below w.heap.size w w' := by
    intro w; have h := xstep_c t0 t1 t2 t3 w; rw [hy] at h; exact h
  have C10 : ∀ w, Calls Try.prog 27 #[.agg #[.int .u64 u0.toNat, .int .u64 u1.toNat, .int .u64 u2.toNat, .int .u64 u3.toNat]] w fun e w' => e = .returned (.agg #[.int .u64 z0.toNat, .int .u64 z1.toNat, .int .u64 z2.toNat, .int .u64 z3.toNat]) ∧ Below w.heap.size w w' := by
    intro w; have h := xstep_c u0 u1 u2 u3 w; rw [hz] at h; exact h
  have E1 := eq4_self s0.toNat s1.toNat s2.toNat s3.toNat
  have E2 := eq4_self u0.toNat u1.toNat u2.toNat u3.toNat
  have E3 := eq4_self z0.toNat z1.toNat z2.toNat z3.toNat
  have D1 := Lib.hid C1
  have D2 := Lib.hid C2
  have D3 := Lib.hid C3
  have D4 := Lib.hid C4
  have D5 := Lib.hid C5
  have D6 := Lib.hid C6
  have D7 := Lib.hid C7
  have D8 := Lib.hid C8
  have D9 := Lib.hid C9
  have D10 := Lib.hid C10
  have DX := Lib.hid HX
  clear hu hx hy hz hla hlb hlc HX C1 C2 C3 C4 C5 C6 C7 C8 C9 C10 hn
  go_enter Try.func9, Try.ntmps9
  go_wp2_with fail
  refine (awake07_c _).mono ?_
  rintro e w1 ⟨rfl, hb1⟩
  have hz1 := hb1.size; (try simp at hz1)
  have kc1w_heap_size_0 : w1.cell? ⟨w.heap.size, 0, none⟩ = some (.int .u64 s0.toNat) := (hb1.cell (p := ⟨w.heap.size, 0, none⟩) (by first | omega | (simp; done) | (simp; omega))).trans (by go_simp); have kf1w_heap_size_0 : w1.frozen? ⟨w.heap.size, 0, none⟩ = false := (hb1.frozen (p := ⟨w.heap.size, 0, none⟩) (by first | omega | (simp; done) | (simp; omega))).trans (by go_simp); have kc1w_heap_size_1 : w1.cell? ⟨w.heap.size, 1, none⟩ = some (.int .u64 s1.toNat) := (hb1.cell (p := ⟨w.heap.size, 1, none⟩) (by first | omega | (simp; done) | (simp; omega))).trans (by go_simp); have kf1w_heap_size_1 : w1.frozen? ⟨w.heap.size, 1, none⟩ = false := (hb1.frozen (p := ⟨w.heap.size, 1, none⟩) (by first | omega | (simp; done) | (simp; omega))).trans (by go_simp); have kc1w_heap_size_2 : w1.cell? ⟨w.heap.size, 2, none⟩ = some (.int .u64 s2.toNat) := (hb1.cell (p := ⟨w.heap.size, 2, none⟩) (by first | omega | (simp; done) | (simp; omega))).trans (by go_simp); have kf1w_heap_size_2 : w1.frozen? ⟨w.heap.size, 2, none⟩ = false := (hb1.frozen (p := ⟨w.heap.size, 2, none⟩) (by first | omega | (simp; done) | (simp; omega))).trans (by go_simp); have kc1w_heap_size_3 : w1.cell? ⟨w.heap.size, 3, none⟩ = some (.int .u64 s3.toNat) := (hb1.cell (p := ⟨w.heap.size, 3, none⟩) (by first | omega | (simp; done) | (simp; omega))).trans (by go_simp); have kf1w_heap_size_3 : w1.frozen? ⟨w.heap.size, 3, none⟩ = false := (hb1.frozen (p := ⟨w.heap.size, 3, none⟩) (by first | omega | (simp; done) | (simp; omega))).trans (by go_simp)
  have kc1w_heap_size___1_0 : w1.cell? ⟨w.heap.size + 1, 0, none⟩ = some (.int .u64 t0.toNat) := (hb1.cell (p := ⟨w.heap.size + 1, 0, none⟩) (by first | omega | (simp; done) | (simp; omega))).trans (by go_simp); have kf1w_heap_size___1_0 : w1.frozen? ⟨w.heap.size + 1, 0, none⟩ = false := (hb1.frozen (p := ⟨w.heap.size + 1, 0, none⟩) (by first | omega | (simp; done) | (simp; omega))).trans (by go_simp); have kc1w_heap_size___1_1 : w1.cell? ⟨w.heap.size + 1, 1, none⟩ = some (.int .u64 t1.toNat) := (hb1.cell (p := ⟨w.heap.size + 1, 1, none⟩) (by first | omega | (simp; done) | (simp; omega))).trans (by go_simp); have kf1w_heap_size___1_1 : w1.frozen? ⟨w.heap.size + 1, 1, none⟩ = false := (hb1.frozen (p := ⟨w.heap.size + 1, 1, none⟩) (by first | omega | (simp; done) | (simp; omega))).trans (by go_simp); have kc1w_heap_size___1_2 : w1.cell? ⟨w.heap.size + 1, 2, none⟩ = some (.int .u64 t2.toNat) := (hb1.cell (p := ⟨w.heap.size + 1, 2, none⟩) (by first | omega | (simp; done) | (simp; omega))).trans (by go_simp); have kf1w_heap_size___1_2 : w1.frozen? ⟨w.heap.size + 1, 2, none⟩ = false := (hb1.frozen (p := ⟨w.heap.size + 1, 2, none⟩) (by first | omega | (simp; done) | (simp; omega))).trans (by go_simp); have kc1w_heap_size___1_3 : w1.cell? ⟨w.heap.size + 1, 3, none⟩ = some (.int .u64 t3.toNat) := (hb1.cell (p := ⟨w.heap.size + 1, 3, none⟩) (by first | omega | (simp; done) | (simp; omega))).trans (by go_simp); have kf1w_heap_size___1_3 : w1.frozen? ⟨w.heap.size + 1, 3, none⟩ = false := (hb1.frozen (p := ⟨w.heap.size + 1, 3, none⟩) (by first | omega | (simp; done) | (simp; omega))).trans (by go_simp)
  go_wp2_with fail
  refine (D1.out _).mono ?_
  rintro e w2 ⟨va, rfl, ha, hb2⟩
  have hz2 := hb2.size; (try simp at hz2)
  have kc2w_heap_size_0 : w2.cell? ⟨w.heap.size, 0, none⟩ = some (.int .u64 s0.toNat) := (hb2.cell (p := ⟨w.heap.size, 0, none⟩) (by first | omega | (simp; done) | (simp; omega))).trans (by go_simp); have kf2w_heap_size_0 : w2.frozen? ⟨w.heap.size, 0, none⟩ = false := (hb2.frozen (p := ⟨w.heap.size, 0, none⟩) (by first | omega | (simp; done) | (simp; omega))).trans (by go_simp); have kc2w_heap_size_1 : w2.cell? ⟨w.heap.size, 1, none⟩ = some (.int .u64 s1.toNat) := (hb2.cell (p := ⟨w.heap.size, 1, none⟩) (by first | omega | (simp; done) | (simp; omega))).trans (by go_simp); have kf2w_heap_size_1 : w2.frozen? ⟨w.heap.size, 1, none⟩ = false := (hb2.frozen (p := ⟨w.heap.size, 1, none⟩) (by first | omega | (simp; done) | (simp; omega))).trans (by go_simp); have kc2w_heap_size_2 : w2.cell? ⟨w.heap.size, 2, none⟩ = some (.int .u64 s2.toNat) := (hb2.cell (p := ⟨w.heap.size, 2, none⟩) (by first | omega | (simp; done) | (simp; omega))).trans (by go_simp); have kf2w_heap_size_2 : w2.frozen? ⟨w.heap.size, 2, none⟩ = false := (hb2.frozen (p := ⟨w.heap.size, 2, none⟩) (by first | omega | (simp; done) | (simp; omega))).trans (by go_simp); have kc2w_heap_size_3 : w2.cell? ⟨w.heap.size, 3, none⟩ = some (.int .u64 s3.toNat) := (hb2.cell (p := ⟨w.heap.size, 3, none⟩) (by first | omega | (simp; done) | (simp; omega))).trans (by go_simp); have kf2w_heap_size_3 : w2.frozen? ⟨w.heap.size, 3, none⟩ = false := (hb2.frozen (p := ⟨w.heap.size, 3, none⟩) (by first | omega | (simp; done) | (simp; omega))).trans (by go_simp)
  have kc2w_heap_size___1_0 : w2.cell? ⟨w.heap.size + 1, 0, none⟩ = some (.int .u64 t0.toNat) := (hb2.cell (p := ⟨w.heap.size + 1, 0, none⟩) (by first | omega | (simp; done) | (simp; omega))).trans (by go_simp); have kf2w_heap_size___1_0 : w2.frozen? ⟨w.heap.size + 1, 0, none⟩ = false := (hb2.frozen (p := ⟨w.heap.size + 1, 0, none⟩) (by first | omega | (simp; done) | (simp; omega))).trans (by go_simp); have kc2w_heap_size___1_1 : w2.cell? ⟨w.heap.size + 1, 1, none⟩ = some (.int .u64 t1.toNat) := (hb2.cell (p := ⟨w.heap.size + 1, 1, none⟩) (by first | omega | (simp; done) | (simp; omega))).trans (by go_simp); have kf2w_heap_size___1_1 : w2.frozen? ⟨w.heap.size + 1, 1, none⟩ = false := (hb2.frozen (p := ⟨w.heap.size + 1, 1, none⟩) (by first | omega | (simp; done) | (simp; omega))).trans (by go_simp); have kc2w_heap_size___1_2 : w2.cell? ⟨w.heap.size + 1, 2, none⟩ = some (.int .u64 t2.toNat) := (hb2.cell (p := ⟨w.heap.size + 1, 2, none⟩) (by first | omega | (simp; done) | (simp; omega))).trans (by go_simp); have kf2w_heap_size___1_2 : w2.frozen? ⟨w.heap.size + 1, 2, none⟩ = false := (hb2.frozen (p := ⟨w.heap.size + 1, 2, none⟩) (by first | omega | (simp; done) | (simp; omega))).trans (by go_simp); have kc2w_heap_size___1_3 : w2.cell? ⟨w.heap.size + 1, 3, none⟩ = some (.int .u64 t3.toNat) := (hb2.cell (p := ⟨w.heap.size + 1, 3, none⟩) (by first | omega | (simp; done) | (simp; omega))).trans (by go_simp); have kf2w_heap_size___1_3 : w2.frozen? ⟨w.heap.size + 1, 3, none⟩ = false := (hb2.frozen (p := ⟨w.heap.size + 1, 3, none⟩) (by first | omega | (simp; done) | (simp; omega))).trans (by go_simp)
  go_wp2_with fail
  refine (D2.out _).mono ?_
  rintro e w3 ⟨vb, rfl, hbr, hb3⟩
  have hz3 := hb3.size; (try simp at hz3)
  have kc3w_heap_size_0 : w3.cell? ⟨w.heap.size, 0, none⟩ = some (.int .u64 s0.toNat) := (hb3.cell (p := ⟨w.heap.size, 0, none⟩) (by first | omega | (simp; done) | (simp; omega))).trans (by go_simp); have kf3w_heap_size_0 : w3.frozen? ⟨w.heap.size, 0, none⟩ = false := (hb3.frozen (p := ⟨w.heap.size, 0, none⟩) (by first | omega | (simp; done) | (simp; omega))).trans (by go_simp); have kc3w_heap_size_1 : w3.cell? ⟨w.heap.size, 1, none⟩ = some (.int .u64 s1.toNat) := (hb3.cell (p := ⟨w.heap.size, 1, none⟩) (by first | omega | (simp; done) | (simp; omega))).trans (by go_simp); have kf3w_heap_size_1 : w3.frozen? ⟨w.heap.size, 1, none⟩ = false := (hb3.frozen (p := ⟨w.heap.size, 1, none⟩) (by first | omega | (simp; done) | (simp; omega))).trans (by go_simp); have kc3w_heap_size_2 : w3.cell? ⟨w.heap.size, 2, none⟩ = some (.int .u64 s2.toNat) := (hb3.cell (p := ⟨w.heap.size, 2, none⟩) (by first | omega | (simp; done) | (simp; omega))).trans (by go_simp); have kf3w_heap_size_2 : w3.frozen? ⟨w.heap.size, 2, none⟩ = false := (hb3.frozen (p := ⟨w.heap.size, 2, none⟩) (by first | omega | (simp; done) | (simp; omega))).trans (by go_simp); have kc3w_heap_size_3 : w3.cell? ⟨w.heap.size, 3, none⟩ = some (.int .u64 s3.toNat) := (hb3.cell (p := ⟨w.heap.size, 3, none⟩) (by first | omega | (simp; done) | (simp; omega))).trans (by go_simp); have kf3w_heap_size_3 : w3.frozen? ⟨w.heap.size, 3, none⟩ = false := (hb3.frozen (p := ⟨w.heap.size, 3, none⟩) (by first | omega | (simp; done) | (simp; omega))).trans (by go_simp)
  have kc3w_heap_size___1_0 : w3.cell? ⟨w.heap.size + 1, 0, none⟩ = some (.int .u64 t0.toNat) := (hb3.cell (p := ⟨w.heap.size + 1, 0, none⟩) (by first | omega | (simp; done) | (simp; omega))).trans (by go_simp); have kf3w_heap_size___1_0 : w3.frozen? ⟨w.heap.size + 1, 0, none⟩ = false := (hb3.frozen (p := ⟨w.heap.size + 1, 0, none⟩) (by first | omega | (simp; done) | (simp; omega))).trans (by go_simp); have kc3w_heap_size___1_1 : w3.cell? ⟨w.heap.size + 1, 1, none⟩ = some (.int .u64 t1.toNat) := (hb3.cell (p := ⟨w.heap.size + 1, 1, none⟩) (by first | omega | (simp; done) | (simp; omega))).trans (by go_simp); have kf3w_heap_size___1_1 : w3.frozen? ⟨w.heap.size + 1, 1, none⟩ = false := (hb3.frozen (p := ⟨w.heap.size + 1, 1, none⟩) (by first | omega | (simp; done) | (simp; omega))).trans (by go_simp); have kc3w_heap_size___1_2 : w3.cell? ⟨w.heap.size + 1, 2, none⟩ = some (.int .u64 t2.toNat) := (hb3.cell (p := ⟨w.heap.size + 1, 2, none⟩) (by first | omega | (simp; done) | (simp; omega))).trans (by go_simp); have kf3w_heap_size___1_2 : w3.frozen? ⟨w.heap.size + 1, 2, none⟩ = false := (hb3.frozen (p := ⟨w.heap.size + 1, 2, none⟩) (by first | omega | (simp; done) | (simp; omega))).trans (by go_simp); have kc3w_heap_size___1_3 : w3.cell? ⟨w.heap.size + 1, 3, none⟩ = some (.int .u64 t3.toNat) := (hb3.cell (p := ⟨w.heap.size + 1, 3, none⟩) (by first | omega | (simp; done) | (simp; omega))).trans (by go_simp); have kf3w_heap_size___1_3 : w3.frozen? ⟨w.heap.size + 1, 3, none⟩ = false := (hb3.frozen (p := ⟨w.heap.size + 1, 3, none⟩) (by first | omega | (simp; done) | (simp; omega))).trans (by go_simp)
  go_wp2_with fail
  refine (D4.out _).mono ?_
  rintro e w4 ⟨rfl, hb4⟩
  have hz4 := hb4.size; (try simp at hz4)
  have kc4w_heap_size_0 : w4.cell? ⟨w.heap.size, 0, none⟩ = some (.int .u64 s0.toNat) := (hb4.cell (p := ⟨w.heap.size, 0, none⟩) (by first | omega | (simp; done) | (simp; omega))).trans (by go_simp); have kf4w_heap_size_0 : w4.frozen? ⟨w.heap.size, 0, none⟩ = false := (hb4.frozen (p := ⟨w.heap.size, 0, none⟩) (by first | omega | (simp; done) | (simp; omega))).trans (by go_simp); have kc4w_heap_size_1 : w4.cell? ⟨w.heap.size, 1, none⟩ = some (.int .u64 s1.toNat) := (hb4.cell (p := ⟨w.heap.size, 1, none⟩) (by first | omega | (simp; done) | (simp; omega))).trans (by go_simp); have kf4w_heap_size_1 : w4.frozen? ⟨w.heap.size, 1, none⟩ = false := (hb4.frozen (p := ⟨w.heap.size, 1, none⟩) (by first | omega | (simp; done) | (simp; omega))).trans (by go_simp); have kc4w_heap_size_2 : w4.cell? ⟨w.heap.size, 2, none⟩ = some (.int .u64 s2.toNat) := (hb4.cell (p := ⟨w.heap.size, 2, none⟩) (by first | omega | (simp; done) | (simp; omega))).trans (by go_simp); have kf4w_heap_size_2 : w4.frozen? ⟨w.heap.size, 2, none⟩ = false := (hb4.frozen (p := ⟨w.heap.size, 2, none⟩) (by first | omega | (simp; done) | (simp; omega))).trans (by go_simp); have kc4w_heap_size_3 : w4.cell? ⟨w.heap.size, 3, none⟩ = some (.int .u64 s3.toNat) := (hb4.cell (p := ⟨w.heap.size, 3, none⟩) (by first | omega | (simp; done) | (simp; omega))).trans (by go_simp); have kf4w_heap_size_3 : w4.frozen? ⟨w.heap.size, 3, none⟩ = false := (hb4.frozen (p := ⟨w.heap.size, 3, none⟩) (by first | omega | (simp; done) | (simp; omega))).trans (by go_simp)
  have kc4w_heap_size___1_0 : w4.cell? ⟨w.heap.size + 1, 0, none⟩ = some (.int .u64 t0.toNat) := (hb4.cell (p := ⟨w.heap.size + 1, 0, none⟩) (by first | omega | (simp; done) | (simp; omega))).trans (by go_simp); have kf4w_heap_size___1_0 : w4.frozen? ⟨w.heap.size + 1, 0, none⟩ = false := (hb4.frozen (p := ⟨w.heap.size + 1, 0, none⟩) (by first | omega | (simp; done) | (simp; omega))).trans (by go_simp); have kc4w_heap_size___1_1 : w4.cell? ⟨w.heap.size + 1, 1, none⟩ = some (.int .u64 t1.toNat) := (hb4.cell (p := ⟨w.heap.size + 1, 1, none⟩) (by first | omega | (simp; done) | (simp; omega))).trans (by go_simp); have kf4w_heap_size___1_1 : w4.frozen? ⟨w.heap.size + 1, 1, none⟩ = false := (hb4.frozen (p := ⟨w.heap.size + 1, 1, none⟩) (by first | omega | (simp; done) | (simp; omega))).trans (by go_simp); have kc4w_heap_size___1_2 : w4.cell? ⟨w.heap.size + 1, 2, none⟩ = some (.int .u64 t2.toNat) := (hb4.cell (p := ⟨w.heap.size + 1, 2, none⟩) (by first | omega | (simp; done) | (simp; omega))).trans (by go_simp); have kf4w_heap_size___1_2 : w4.frozen? ⟨w.heap.size + 1, 2, none⟩ = false := (hb4.frozen (p := ⟨w.heap.size + 1, 2, none⟩) (by first | omega | (simp; done) | (simp; omega))).trans (by go_simp); have kc4w_heap_size___1_3 : w4.cell? ⟨w.heap.size + 1, 3, none⟩ = some (.int .u64 t3.toNat) := (hb4.cell (p := ⟨w.heap.size + 1, 3, none⟩) (by first | omega | (simp; done) | (simp; omega))).trans (by go_simp); have kf4w_heap_size___1_3 : w4.frozen? ⟨w.heap.size + 1, 3, none⟩ = false := (hb4.frozen (p := ⟨w.heap.size + 1, 3, none⟩) (by first | omega | (simp; done) | (simp; omega))).trans (by go_simp)
  go_wp2_with fail
  refine (D3.out _).mono ?_
  rintro e w5 ⟨vc, rfl, hc, hb5⟩
  have hz5 := hb5.size; (try simp at hz5)
  have kc5w_heap_size_0 : w5.cell? ⟨w.heap.size, 0, none⟩ = some (.int .u64 s0.toNat) := (hb5.cell (p := ⟨w.heap.size, 0, none⟩) (by first | omega | (simp; done) | (simp; omega))).trans (by go_simp); have kf5w_heap_size_0 : w5.frozen? ⟨w.heap.size, 0, none⟩ = false := (hb5.frozen (p := ⟨w.heap.size, 0, none⟩) (by first | omega | (simp; done) | (simp; omega))).trans (by go_simp); have kc5w_heap_size_1 : w5.cell? ⟨w.heap.size, 1, none⟩ = some (.int .u64 s1.toNat) := (hb5.cell (p := ⟨w.heap.size, 1, none⟩) (by first | omega | (simp; done) | (simp; omega))).trans (by go_simp); have kf5w_heap_size_1 : w5.frozen? ⟨w.heap.size, 1, none⟩ = false := (hb5.frozen (p := ⟨w.heap.size, 1, none⟩) (by first | omega | (simp; done) | (simp; omega))).trans (by go_simp); have kc5w_heap_size_2 : w5.cell? ⟨w.heap.size, 2, none⟩ = some (.int .u64 s2.toNat) := (hb5.cell (p := ⟨w.heap.size, 2, none⟩) (by first | omega | (simp; done) | (simp; omega))).trans (by go_simp); have kf5w_heap_size_2 : w5.frozen? ⟨w.heap.size, 2, none⟩ = false := (hb5.frozen (p := ⟨w.heap.size, 2, none⟩) (by first | omega | (simp; done) | (simp; omega))).trans (by go_simp); have kc5w_heap_size_3 : w5.cell? ⟨w.heap.size, 3, none⟩ = some (.int .u64 s3.toNat) := (hb5.cell (p := ⟨w.heap.size, 3, none⟩) (by first | omega | (simp; done) | (simp; omega))).trans (by go_simp); have kf5w_heap_size_3 : w5.frozen? ⟨w.heap.size, 3, none⟩ = false := (hb5.frozen (p := ⟨w.heap.size, 3, none⟩) (by first | omega | (simp; done) | (simp; omega))).trans (by go_simp)
  have kc5w_heap_size___1_0 : w5.cell? ⟨w.heap.size + 1, 0, none⟩ = some (.int .u64 t0.toNat) := (hb5.cell (p := ⟨w.heap.size + 1, 0, none⟩) (by first | omega | (simp; done) | (simp; omega))).trans (by go_simp); have kf5w_heap_size___1_0 : w5.frozen? ⟨w.heap.size + 1, 0, none⟩ = false := (hb5.frozen (p := ⟨w.heap.size + 1, 0, none⟩) (by first | omega | (simp; done) | (simp; omega))).trans (by go_simp); have kc5w_heap_size___1_1 : w5.cell? ⟨w.heap.size + 1, 1, none⟩ = some (.int .u64 t1.toNat) := (hb5.cell (p := ⟨w.heap.size + 1, 1, none⟩) (by first | omega | (simp; done) | (simp; omega))).trans (by go_simp); have kf5w_heap_size___1_1 : w5.frozen? ⟨w.heap.size + 1, 1, none⟩ = false := (hb5.frozen (p := ⟨w.heap.size + 1, 1, none⟩) (by first | omega | (simp; done) | (simp; omega))).trans (by go_simp); have kc5w_heap_size___1_2 : w5.cell? ⟨w.heap.size + 1, 2, none⟩ = some (.int .u64 t2.toNat) := (hb5.cell (p := ⟨w.heap.size + 1, 2, none⟩) (by first | omega | (simp; done) | (simp; omega))).trans (by go_simp); have kf5w_heap_size___1_2 : w5.frozen? ⟨w.heap.size + 1, 2, none⟩ = false := (hb5.frozen (p := ⟨w.heap.size + 1, 2, none⟩) (by first | omega | (simp; done) | (simp; omega))).trans (by go_simp); have kc5w_heap_size___1_3 : w5.cell? ⟨w.heap.size + 1, 3, none⟩ = some (.int .u64 t3.toNat) := (hb5.cell (p := ⟨w.heap.size + 1, 3, none⟩) (by first | omega | (simp; done) | (simp; omega))).trans (by go_simp); have kf5w_heap_size___1_3 : w5.frozen? ⟨w.heap.size + 1, 3, none⟩ = false := (hb5.frozen (p := ⟨w.heap.size + 1, 3, none⟩) (by first | omega | (simp; done) | (simp; omega))).trans (by go_simp)
  have hbw : Below w.heap.size w w5 := by (repeat' (first | (with_reducible exact Below.refl _ _) | (with_reducible assumption) | (with_reducible refine Below.alloc ?_ ?_ _) | (with_reducible refine Below.drew ?_) | (with_reducible refine below_drewN ?_ _) | (with_reducible refine Below.setCell ?_ ?_ _) | (with_reducible refine Below.trans ?_ (Below.mono (by assumption) ?_)) | go_size))
  have oa := owns_below (owns_below (owns_below ha hb3) hb4) hb5
  have ob := owns_below (owns_below hbr hb4) hb5
  obtain ⟨pa, ca, rfl, hca, hma, hra⟩ := row_any oa
  obtain ⟨pb, cb, rfl, hcb, hmb, hrb⟩ := row_any ob
  obtain ⟨pc, cc, rfl, hcc, hmc, hrc⟩ := row_any hc
  have hA := Lib.hid hra
  have hB := Lib.hid hrb
  have hC := Lib.hid hrc
  have HW := Lib.hid hbw
  unfold maxLen at hma hmb hmc
  clear ha hbr hc hb1 hb2 hb3 hb4 hb5 hbw D1 D2 D3 oa ob hra hrb hrc
  have HS : ((w5.cell? ⟨w.heap.size, 0, none⟩ = some (.int .u64 s0.toNat) ∧ w5.cell? ⟨w.heap.size, 1, none⟩ = some (.int .u64 s1.toNat) ∧ w5.cell? ⟨w.heap.size, 2, none⟩ = some (.int .u64 s2.toNat) ∧ w5.cell? ⟨w.heap.size, 3, none⟩ = some (.int .u64 s3.toNat)) ∧ (w5.cell? ⟨w.heap.size + 1, 0, none⟩ = some (.int .u64 t0.toNat) ∧ w5.cell? ⟨w.heap.size + 1, 1, none⟩ = some (.int .u64 t1.toNat) ∧ w5.cell? ⟨w.heap.size + 1, 2, none⟩ = some (.int .u64 t2.toNat) ∧ w5.cell? ⟨w.heap.size + 1, 3, none⟩ = some (.int .u64 t3.toNat))) := ⟨⟨by go_simp, by go_simp, by go_simp, by go_simp⟩, by go_simp, by go_simp, by go_simp, by go_simp⟩
  have hS := Lib.hid HS
  clear HS
  go_wp2_with fail
  have HE1 := Lib.hid E1
  have HE2 := Lib.hid E2
  have HE3 := Lib.hid E3
  clear E1 E2 E3
  go_loopw [70] (fun i wr => ∃ k : Nat, k ≤ n ∧ i = .int .i64 k ∧ (∀ a, wr.cell? a = w5.cell? a) ∧ Below w5.heap.size w5 wr) (fun i _ => n - (intOf i).toNat)
  case atStart => exact ⟨0, by omega, rfl, fun _ => rfl, Below.refl _ _⟩
  case round =>
    obtain ⟨k, hk, rfl, hcell, hb⟩ := hrel
    by_cases hlt : k < n
    · obtain ⟨ga, rfl, _, ea⟩ := hA.out k hlt
      obtain ⟨gb, rfl, _, eb⟩ := hB.out k hlt
      obtain ⟨gc, rfl, _, ec⟩ := hC.out k hlt
      have eX := DX.out k hlt
      rw [bools_at la k (by omega), ← hcell] at ea
      rw [bools_at lb k (by omega), ← hcell] at eb
      rw [bools_at lc k (by omega), ← hcell, eX] at ec
      clear eX
      generalize la[k]'(by omega) = ba at ea ec
      generalize lb[k]'(by omega) = bb at eb ec
      have HC := Lib.hid hcell
      clear hcell
      cases ba <;> cases bb <;> simp at ec
      all_goals
        go_wp2
        go_quiet (fail)
        go_wp2
        go_roundw
        case rel => exact ⟨k + 1, by omega, by go_num, fun a => HC.out a, by (repeat' (first | (with_reducible exact Below.refl _ _) | (with_reducible assumption) | (with_reducible refine Below.alloc ?_ ?_ _) | (with_reducible refine Below.drew ?_) | (with_reducible refine below_drewN ?_ _) | (with_reducible refine Below.setCell ?_ ?_ _) | (with_reducible refine Below.trans ?_ (Below.mono (by assumption) ?_)) | go_size))⟩
        case measure => simp [intOf]; omega
    · obtain rfl : n = k := by omega
      have HS : ((wr.cell? ⟨w.heap.size, 0, none⟩ = some (.int .u64 s0.toNat) ∧ wr.cell? ⟨w.heap.size, 1, none⟩ = some (.int .u64 s1.toNat) ∧ wr.cell? ⟨w.heap.size, 2, none⟩ = some (.int .u64 s2.toNat) ∧ wr.cell? ⟨w.heap.size, 3, none⟩ = some (.int .u64 s3.toNat)) ∧ (wr.cell? ⟨w.heap.size + 1, 0, none⟩ = some (.int .u64 t0.toNat) ∧ wr.cell? ⟨w.heap.size + 1, 1, none⟩ = some (.int .u64 t1.toNat) ∧ wr.cell? ⟨w.heap.size + 1, 2, none⟩ = some (.int .u64 t2.toNat) ∧ wr.cell? ⟨w.heap.size + 1, 3, none⟩ = some (.int .u64 t3.toNat))) := by simp only [hcell]; exact hS.out
      have E1 := HE1.out
      have E2 := HE2.out
      have E3 := HE3.out
      clear hcell hA hB hC DX
      have hz0 := hb.size
      go_wp2_with fail
      go_region_held3 (fun w' => ((w'.cell? ⟨w.heap.size, 0, none⟩ = some (.int .u64 s0.toNat) ∧ w'.cell? ⟨w.heap.size, 1, none⟩ = some (.int .u64 s1.toNat) ∧ w'.cell? ⟨w.heap.size, 2, none⟩ = some (.int .u64 s2.toNat) ∧ w'.cell? ⟨w.heap.size, 3, none⟩ = some (.int .u64 s3.toNat)) ∧ (w'.cell? ⟨w.heap.size + 1, 0, none⟩ = some (.int .u64 t0.toNat) ∧ w'.cell? ⟨w.heap.size + 1, 1, none⟩ = some (.int .u64 t1.toNat) ∧ w'.cell? ⟨w.heap.size + 1, 2, none⟩ = some (.int .u64 t2.toNat) ∧ w'.cell? ⟨w.heap.size + 1, 3, none⟩ = some (.int .u64 t3.toNat))))
        (go_keep)
        (first
          | (go_at_call_of 35 (#[.agg #[.int .u64 s0.toNat, .int .u64 s1.toNat, .int .u64 s2.toNat, .int .u64 s3.toNat], .agg #[.int .u64 t0.toNat, .int .u64 t1.toNat, .int .u64 t2.toNat, .int .u64 t3.toNat]] : Array Value); refine (D4.out _).mono ?_; rintro e w' ⟨rfl, hb⟩; have hk := keep_cell hb; have hz := hb.size; (try simp at hz))
          | (go_at_call_of 35 (#[.agg #[.int .u64 t0.toNat, .int .u64 t1.toNat, .int .u64 t2.toNat, .int .u64 t3.toNat], .agg #[.int .u64 s0.toNat, .int .u64 s1.toNat, .int .u64 s2.toNat, .int .u64 s3.toNat]] : Array Value); refine (D5.out _).mono ?_; rintro e w' ⟨rfl, hb⟩; have hk := keep_cell hb; have hz := hb.size; (try simp at hz))
          | (go_at_call_of 35 (#[.agg #[.int .u64 u0.toNat, .int .u64 u1.toNat, .int .u64 u2.toNat, .int .u64 u3.toNat], .agg #[.int .u64 t0.toNat, .int .u64 t1.toNat, .int .u64 t2.toNat, .int .u64 t3.toNat]] : Array Value); refine (D6.out _).mono ?_; rintro e w' ⟨rfl, hb⟩; have hk := keep_cell hb; have hz := hb.size; (try simp at hz))
          | (go_at_call_of 35 (#[.agg #[.int .u64 x0.toNat, .int .u64 x1.toNat, .int .u64 x2.toNat, .int .u64 x3.toNat], .agg #[.int .u64 y0.toNat, .int .u64 y1.toNat, .int .u64 y2.toNat, .int .u64 y3.toNat]] : Array Value); refine (D7.out _).mono ?_; rintro e w' ⟨rfl, hb⟩; have hk := keep_cell hb; have hz := hb.size; (try simp at hz))
          | (go_at_call_of 27 (#[.agg #[.int .u64 s0.toNat, .int .u64 s1.toNat, .int .u64 s2.toNat, .int .u64 s3.toNat]] : Array Value); refine (D8.out _).mono ?_; rintro e w' ⟨rfl, hb⟩; have hk := keep_cell hb; have hz := hb.size; (try simp at hz))
          | (go_at_call_of 27 (#[.agg #[.int .u64 t0.toNat, .int .u64 t1.toNat, .int .u64 t2.toNat, .int .u64 t3.toNat]] : Array Value); refine (D9.out _).mono ?_; rintro e w' ⟨rfl, hb⟩; have hk := keep_cell hb; have hz := hb.size; (try simp at hz))
          | (go_at_call_of 27 (#[.agg #[.int .u64 u0.toNat, .int .u64 u1.toNat, .int .u64 u2.toNat, .int .u64 u3.toNat]] : Array Value); refine (D10.out _).mono ?_; rintro e w' ⟨rfl, hb⟩; have hk := keep_cell hb; have hz := hb.size; (try simp at hz)))
      all_goals go_wp2
      all_goals go_ret
      all_goals exact ⟨rfl, HW.out.trans (Below.mono (B := w5.heap.size) (by (repeat' (first | (with_reducible exact Below.refl _ _) | (with_reducible assumption) | (with_reducible refine Below.alloc ?_ ?_ _) | (with_reducible refine Below.drew ?_) | (with_reducible refine below_drewN ?_ _) | (with_reducible refine Below.setCell ?_ ?_ _) | (with_reducible refine Below.trans ?_ (Below.mono (by assumption) ?_)) | go_size))) (by omega))⟩
end Go.Proofs.Ytpkfgpbneogijaa
