/- The document's mixing, and MixTells, walked. -/
import Derived.Test.YtmihcjbnieoodaaMxBack
namespace Go.Proofs.Ytmihcjbnieoodaa
open Go Go.RowKit

set_option maxRecDepth 100000 in
theorem rmix6_c (z : BitVec 64) (w : World) : Calls Try.prog 21 #[.int .u64 z.toNat] w fun e w' => e = .returned (.int .u64 (Mx.mix z).toNat) ∧ w = w' := by
  go_enter Try.func21, Try.ntmps21
  go_wp2
  go_ret
  exact ⟨ret_int (by rw [sh30, mt1, sh27, mt2, sh31]; rfl), rfl⟩
theorem rstep6_c (s : BitVec 64) (w : World) : Calls Try.prog 18 #[.int .u64 s.toNat] w fun e w' => e = .returned (.int .u64 (Mx.step s).toNat) ∧ w = w' := by
  go_enter Try.func18, Try.ntmps18
  go_wp2
  go_ret
  exact ⟨ret_int (by rw [mg1]), rfl⟩
section
attribute [local go_sem] mg1
theorem rword6_c (s : BitVec 64) (w : World) : Calls Try.prog 17 #[.int .u64 s.toNat] w fun e w' => e = .returned (.int .u64 (Mx.word s).toNat) ∧ w = w' := by
  go_enter Try.func17, Try.ntmps17
  go_wp2_with fail
  refine (rmix6_c _ _).mono ?_
  rintro e w' ⟨rfl, rfl⟩
  go_wp2
  go_ret
  exact ⟨rfl, rfl⟩
end
theorem Mx.it_jump (s : BitVec 64) : ∀ n : Nat, Mx.it n s = Mx.jump s (BitVec.ofNat 64 n)
  | 0 => by simp [Mx.it, Mx.jump]
  | n + 1 => by
    rw [Mx.it, Mx.it_jump s n, show Mx.step = fun s => s + Mx.gamma from rfl]
    simp only [Mx.jump]
    rw [show BitVec.ofNat 64 (n + 1) = BitVec.ofNat 64 n + 1#64 from BitVec.eq_of_toNat_eq (by simp), BitVec.add_mul, BitVec.one_mul, BitVec.add_assoc]
set_option maxRecDepth 100000 in
theorem rjump6_c (s : BitVec 64) (n : Nat) (hn : n ≤ 300) (w : World) : Calls Try.prog 26 #[.int .u64 s.toNat, .int .i64 n] w fun e w' => e = .returned (.int .u64 (Mx.it n s).toNat) ∧ w = w' := by
  go_enter Try.func26, Try.ntmps26
  go_wp2
  go_loop [0, 5] (fun x i => ∃ k : Nat, k ≤ n ∧ i = .int .i64 k ∧ x = .int .u64 (Mx.it k s).toNat) (fun _ i => n - (intOf i).toNat)
  case atStart => exact ⟨0, by omega, rfl, rfl⟩
  case round =>
    obtain ⟨k, hk, rfl, rfl⟩ := hrel
    by_cases hlt : k < n
    · go_wp2_with fail
      refine (rstep6_c _ _).mono ?_
      rintro e w' ⟨rfl, rfl⟩
      go_wp2
      go_round
      case rel => exact ⟨k + 1, by omega, by go_num, rfl⟩
      case measure => simp [intOf]; omega
    · obtain rfl : n = k := by omega
      go_wp2
      go_ret
      exact ⟨rfl, rfl⟩
end Go.Proofs.Ytmihcjbnieoodaa
