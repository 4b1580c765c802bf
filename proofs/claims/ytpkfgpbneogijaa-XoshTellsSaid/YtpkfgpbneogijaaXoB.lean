/- xosh's closure, Words, Bits. -/
import Derived.Test.YtpkfgpbneogijaaXo
import Derived.Test.YtpkfgpbneogijaaSl
import Derived.Deep.RegionHeld3
namespace Go.Proofs.Ytpkfgpbneogijaa
open Go Go.RowKit

def NextPost (Bs : Nat) (s : St) (w : World) (e : Ending) (w' : World) : Prop :=
  e = .returned (.agg #[.int .u64 (s).a.toNat, .int .u64 (s).b.toNat, .int .u64 (s).c.toNat, .int .u64 (s).d.toNat]) ∧ Box4 w' Bs (.int .u64 (Xo.step s).a.toNat) (.int .u64 (Xo.step s).b.toNat) (.int .u64 (Xo.step s).c.toNat) (.int .u64 (Xo.step s).d.toNat) ∧ w.grownBy w' (some Bs)

theorem steps7_c (p : Option Addr) (w : World) :
    Calls Try.prog 54 #[.pointer p] w fun e w' => e = .returned (.func (.func 61) #[] #[.pointer (some ⟨w.heap.size, 0, none⟩)]) ∧ w.alloc (.cells #[.pointer p] 85) = w' := by
  go_enter Try.func54, Try.ntmps54
  go_wp2
  go_ret
  exact ⟨rfl, rfl⟩

set_option maxRecDepth 100000 in
set_option maxHeartbeats 4000000 in
theorem next7_c (s0 s1 s2 s3 : BitVec 64) (Bp Bs : Nat) (hne : Bp ≠ Bs) (w : World) (hp : w.cell? ⟨Bp, 0, none⟩ = some (.pointer (some ⟨Bs, 0, none⟩)))
    (h : Box4 w Bs (.int .u64 s0.toNat) (.int .u64 s1.toNat) (.int .u64 s2.toNat) (.int .u64 s3.toNat)) :
    Calls Try.prog 61 #[.pointer (some ⟨Bp, 0, none⟩)] w (NextPost Bs ⟨s0, s1, s2, s3⟩ w) := by
  obtain ⟨⟨c0, c1, c2, c3⟩, ⟨f0, f1, f2, f3⟩⟩ := h
  have lp : Bp < w.heap.size := lt_cell hp
  have ls : Bs < w.heap.size := lt_cell c0
  have n1 : Bs ≠ w.heap.size := by omega
  have n2 : w.heap.size ≠ Bs := by omega
  have n3 : Bs ≠ w.heap.size + 1 := by omega
  have n4 : w.heap.size + 1 ≠ Bs := by omega
  obtain ⟨z, hz⟩ : ∃ z, Xo.step ⟨s0, s1, s2, s3⟩ = z := ⟨_, rfl⟩
  have C : ∀ w, Calls Try.prog 27 #[.agg #[.int .u64 s0.toNat, .int .u64 s1.toNat, .int .u64 s2.toNat, .int .u64 s3.toNat]] w fun e w' => e = .returned (.agg #[.int .u64 (z).a.toNat, .int .u64 (z).b.toNat, .int .u64 (z).c.toNat, .int .u64 (z).d.toNat]) ∧ Below w.heap.size w w' := by
    intro w; rw [← hz]; exact xstep_c _ _ _ _ w
  have D := Lib.hid C
  have Z := Lib.hid hz
  clear C hz
  have kpW : ((w.alloc (.cells #[.int .u64 0, .int .u64 0, .int .u64 0, .int .u64 0] 42)).alloc (.cells #[.int .u64 s0.toNat, .int .u64 s1.toNat, .int .u64 s2.toNat, .int .u64 s3.toNat] 42)).cell? ⟨Bp, 0, none⟩ = some (.pointer (some ⟨Bs, 0, none⟩)) := by go_simp
  have kc0W : ((w.alloc (.cells #[.int .u64 0, .int .u64 0, .int .u64 0, .int .u64 0] 42)).alloc (.cells #[.int .u64 s0.toNat, .int .u64 s1.toNat, .int .u64 s2.toNat, .int .u64 s3.toNat] 42)).cell? ⟨Bs, 0, none⟩ = some (.int .u64 s0.toNat) := by go_simp
  have kf0W : ((w.alloc (.cells #[.int .u64 0, .int .u64 0, .int .u64 0, .int .u64 0] 42)).alloc (.cells #[.int .u64 s0.toNat, .int .u64 s1.toNat, .int .u64 s2.toNat, .int .u64 s3.toNat] 42)).frozen? ⟨Bs, 0, none⟩ = false := by go_simp
  have kn0W : ((w.alloc (.cells #[.int .u64 0, .int .u64 0, .int .u64 0, .int .u64 0] 42)).alloc (.cells #[.int .u64 s0.toNat, .int .u64 s1.toNat, .int .u64 s2.toNat, .int .u64 s3.toNat] 42)).cell? ⟨w.heap.size + 1, 0, none⟩ = some (.int .u64 s0.toNat) := by go_simp
  have kc1W : ((w.alloc (.cells #[.int .u64 0, .int .u64 0, .int .u64 0, .int .u64 0] 42)).alloc (.cells #[.int .u64 s0.toNat, .int .u64 s1.toNat, .int .u64 s2.toNat, .int .u64 s3.toNat] 42)).cell? ⟨Bs, 1, none⟩ = some (.int .u64 s1.toNat) := by go_simp
  have kf1W : ((w.alloc (.cells #[.int .u64 0, .int .u64 0, .int .u64 0, .int .u64 0] 42)).alloc (.cells #[.int .u64 s0.toNat, .int .u64 s1.toNat, .int .u64 s2.toNat, .int .u64 s3.toNat] 42)).frozen? ⟨Bs, 1, none⟩ = false := by go_simp
  have kn1W : ((w.alloc (.cells #[.int .u64 0, .int .u64 0, .int .u64 0, .int .u64 0] 42)).alloc (.cells #[.int .u64 s0.toNat, .int .u64 s1.toNat, .int .u64 s2.toNat, .int .u64 s3.toNat] 42)).cell? ⟨w.heap.size + 1, 1, none⟩ = some (.int .u64 s1.toNat) := by go_simp
  have kc2W : ((w.alloc (.cells #[.int .u64 0, .int .u64 0, .int .u64 0, .int .u64 0] 42)).alloc (.cells #[.int .u64 s0.toNat, .int .u64 s1.toNat, .int .u64 s2.toNat, .int .u64 s3.toNat] 42)).cell? ⟨Bs, 2, none⟩ = some (.int .u64 s2.toNat) := by go_simp
  have kf2W : ((w.alloc (.cells #[.int .u64 0, .int .u64 0, .int .u64 0, .int .u64 0] 42)).alloc (.cells #[.int .u64 s0.toNat, .int .u64 s1.toNat, .int .u64 s2.toNat, .int .u64 s3.toNat] 42)).frozen? ⟨Bs, 2, none⟩ = false := by go_simp
  have kn2W : ((w.alloc (.cells #[.int .u64 0, .int .u64 0, .int .u64 0, .int .u64 0] 42)).alloc (.cells #[.int .u64 s0.toNat, .int .u64 s1.toNat, .int .u64 s2.toNat, .int .u64 s3.toNat] 42)).cell? ⟨w.heap.size + 1, 2, none⟩ = some (.int .u64 s2.toNat) := by go_simp
  have kc3W : ((w.alloc (.cells #[.int .u64 0, .int .u64 0, .int .u64 0, .int .u64 0] 42)).alloc (.cells #[.int .u64 s0.toNat, .int .u64 s1.toNat, .int .u64 s2.toNat, .int .u64 s3.toNat] 42)).cell? ⟨Bs, 3, none⟩ = some (.int .u64 s3.toNat) := by go_simp
  have kf3W : ((w.alloc (.cells #[.int .u64 0, .int .u64 0, .int .u64 0, .int .u64 0] 42)).alloc (.cells #[.int .u64 s0.toNat, .int .u64 s1.toNat, .int .u64 s2.toNat, .int .u64 s3.toNat] 42)).frozen? ⟨Bs, 3, none⟩ = false := by go_simp
  have kn3W : ((w.alloc (.cells #[.int .u64 0, .int .u64 0, .int .u64 0, .int .u64 0] 42)).alloc (.cells #[.int .u64 s0.toNat, .int .u64 s1.toNat, .int .u64 s2.toNat, .int .u64 s3.toNat] 42)).cell? ⟨w.heap.size + 1, 3, none⟩ = some (.int .u64 s3.toNat) := by go_simp
  have kr0W : ((w.alloc (.cells #[.int .u64 0, .int .u64 0, .int .u64 0, .int .u64 0] 42)).alloc (.cells #[.int .u64 s0.toNat, .int .u64 s1.toNat, .int .u64 s2.toNat, .int .u64 s3.toNat] 42)).cell? ⟨w.heap.size, 0, none⟩ = some (.int .u64 0) := by go_simp
  have ks0W : ((w.alloc (.cells #[.int .u64 0, .int .u64 0, .int .u64 0, .int .u64 0] 42)).alloc (.cells #[.int .u64 s0.toNat, .int .u64 s1.toNat, .int .u64 s2.toNat, .int .u64 s3.toNat] 42)).frozen? ⟨w.heap.size, 0, none⟩ = false := by go_simp
  have kr1W : ((w.alloc (.cells #[.int .u64 0, .int .u64 0, .int .u64 0, .int .u64 0] 42)).alloc (.cells #[.int .u64 s0.toNat, .int .u64 s1.toNat, .int .u64 s2.toNat, .int .u64 s3.toNat] 42)).cell? ⟨w.heap.size, 1, none⟩ = some (.int .u64 0) := by go_simp
  have ks1W : ((w.alloc (.cells #[.int .u64 0, .int .u64 0, .int .u64 0, .int .u64 0] 42)).alloc (.cells #[.int .u64 s0.toNat, .int .u64 s1.toNat, .int .u64 s2.toNat, .int .u64 s3.toNat] 42)).frozen? ⟨w.heap.size, 1, none⟩ = false := by go_simp
  have kr2W : ((w.alloc (.cells #[.int .u64 0, .int .u64 0, .int .u64 0, .int .u64 0] 42)).alloc (.cells #[.int .u64 s0.toNat, .int .u64 s1.toNat, .int .u64 s2.toNat, .int .u64 s3.toNat] 42)).cell? ⟨w.heap.size, 2, none⟩ = some (.int .u64 0) := by go_simp
  have ks2W : ((w.alloc (.cells #[.int .u64 0, .int .u64 0, .int .u64 0, .int .u64 0] 42)).alloc (.cells #[.int .u64 s0.toNat, .int .u64 s1.toNat, .int .u64 s2.toNat, .int .u64 s3.toNat] 42)).frozen? ⟨w.heap.size, 2, none⟩ = false := by go_simp
  have kr3W : ((w.alloc (.cells #[.int .u64 0, .int .u64 0, .int .u64 0, .int .u64 0] 42)).alloc (.cells #[.int .u64 s0.toNat, .int .u64 s1.toNat, .int .u64 s2.toNat, .int .u64 s3.toNat] 42)).cell? ⟨w.heap.size, 3, none⟩ = some (.int .u64 0) := by go_simp
  have ks3W : ((w.alloc (.cells #[.int .u64 0, .int .u64 0, .int .u64 0, .int .u64 0] 42)).alloc (.cells #[.int .u64 s0.toNat, .int .u64 s1.toNat, .int .u64 s2.toNat, .int .u64 s3.toNat] 42)).frozen? ⟨w.heap.size, 3, none⟩ = false := by go_simp
  go_enter Try.func61, Try.ntmps61
  go_wp2_with fail
  go_region_with (go_at_call 27; refine (D.out _).mono ?_; rintro e w' ⟨rfl, hb⟩; have hk := keep_cell hb; have hkf := keep_frozen hb; have hz := hb.size; (try simp at hz); have kp : w'.cell? ⟨Bp, 0, none⟩ = some (.pointer (some ⟨Bs, 0, none⟩)) := hk _ _ kpW; have kc0 : w'.cell? ⟨Bs, 0, none⟩ = some (.int .u64 s0.toNat) := hk _ _ kc0W; have kf0 : w'.frozen? ⟨Bs, 0, none⟩ = false := (hkf _ (Option.isSome_of_mem kc0W)).trans kf0W; have kn0 : w'.cell? ⟨w.heap.size + 1, 0, none⟩ = some (.int .u64 s0.toNat) := hk _ _ kn0W; have kc1 : w'.cell? ⟨Bs, 1, none⟩ = some (.int .u64 s1.toNat) := hk _ _ kc1W; have kf1 : w'.frozen? ⟨Bs, 1, none⟩ = false := (hkf _ (Option.isSome_of_mem kc1W)).trans kf1W; have kn1 : w'.cell? ⟨w.heap.size + 1, 1, none⟩ = some (.int .u64 s1.toNat) := hk _ _ kn1W; have kc2 : w'.cell? ⟨Bs, 2, none⟩ = some (.int .u64 s2.toNat) := hk _ _ kc2W; have kf2 : w'.frozen? ⟨Bs, 2, none⟩ = false := (hkf _ (Option.isSome_of_mem kc2W)).trans kf2W; have kn2 : w'.cell? ⟨w.heap.size + 1, 2, none⟩ = some (.int .u64 s2.toNat) := hk _ _ kn2W; have kc3 : w'.cell? ⟨Bs, 3, none⟩ = some (.int .u64 s3.toNat) := hk _ _ kc3W; have kf3 : w'.frozen? ⟨Bs, 3, none⟩ = false := (hkf _ (Option.isSome_of_mem kc3W)).trans kf3W; have kn3 : w'.cell? ⟨w.heap.size + 1, 3, none⟩ = some (.int .u64 s3.toNat) := hk _ _ kn3W; have kr0 : w'.cell? ⟨w.heap.size, 0, none⟩ = some (.int .u64 0) := hk _ _ kr0W; have ks0 : w'.frozen? ⟨w.heap.size, 0, none⟩ = false := (hkf _ (Option.isSome_of_mem kr0W)).trans ks0W; have kr1 : w'.cell? ⟨w.heap.size, 1, none⟩ = some (.int .u64 0) := hk _ _ kr1W; have ks1 : w'.frozen? ⟨w.heap.size, 1, none⟩ = false := (hkf _ (Option.isSome_of_mem kr1W)).trans ks1W; have kr2 : w'.cell? ⟨w.heap.size, 2, none⟩ = some (.int .u64 0) := hk _ _ kr2W; have ks2 : w'.frozen? ⟨w.heap.size, 2, none⟩ = false := (hkf _ (Option.isSome_of_mem kr2W)).trans ks2W; have kr3 : w'.cell? ⟨w.heap.size, 3, none⟩ = some (.int .u64 0) := hk _ _ kr3W; have ks3 : w'.frozen? ⟨w.heap.size, 3, none⟩ = false := (hkf _ (Option.isSome_of_mem kr3W)).trans ks3W; have hg : w.grownBy w' (some Bs) := gb_below (by (repeat' (first | (with_reducible exact World.grownBy.refl _ _) | (with_reducible assumption) | (with_reducible refine gb_alloc ?_ _) | (with_reducible refine gb_drew ?_) | (with_reducible refine gb_drewN ?_ _) | (with_reducible refine gb_set ?_ ?_ _) | (with_reducible refine gb_below ?_ (by assumption)) | (exact Or.inl rfl) | (refine Or.inr ?_) | go_size))) hb; clear hk hkf hb kpW kc0W kf0W kn0W kr0W ks0W c0 f0 kc1W kf1W kn1W kr1W ks1W c1 f1 kc2W kf2W kn2W kr2W ks2W c2 f2 kc3W kf3W kn3W kr3W ks3W c3 f3 hp; simp only [])
  all_goals
    go_wp2
    refine bodyPost_ret (v := .agg #[.int .u64 s0.toNat, .int .u64 s1.toNat, .int .u64 s2.toNat, .int .u64 s3.toNat]) (by simp [results, Try.results61, go_sem, kr0, kr1, kr2, kr3]) rfl ?_
    refine ⟨rfl, ⟨?_, ?_⟩, ?_⟩
    · rw [Z.out]; go_simp
    · go_simp
    · (repeat' (first | (with_reducible exact World.grownBy.refl _ _) | (with_reducible assumption) | (with_reducible refine gb_alloc ?_ _) | (with_reducible refine gb_drew ?_) | (with_reducible refine gb_drewN ?_ _) | (with_reducible refine gb_set ?_ ?_ _) | (with_reducible refine gb_below ?_ (by assumption)) | (exact Or.inl rfl) | (refine Or.inr ?_) | go_size))
end Go.Proofs.Ytpkfgpbneogijaa
