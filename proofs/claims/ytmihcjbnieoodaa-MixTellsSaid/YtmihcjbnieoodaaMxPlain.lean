/- The mixing of 64 bits in plain Lean. -/
namespace Go.Proofs.Ytmihcjbnieoodaa
namespace Mx
def gamma : BitVec 64 := 0x9e3779b97f4a7c15#64
def t1 : BitVec 64 := 0xbf58476d1ce4e5b9#64
def t2 : BitVec 64 := 0x94d049bb133111eb#64
def i1 : BitVec 64 := 0x96de1b173f119089#64
def i2 : BitVec 64 := 0x319642b2d24d8ec3#64
def gi : BitVec 64 := 0xf1de83e19937733d#64
def sh (z : BitVec 64) (n : Nat) : BitVec 64 := z ^^^ z >>> n
def mix (z : BitVec 64) : BitVec 64 := sh (sh (sh z 30 * t1) 27 * t2) 31
def un (z : BitVec 64) (n : Nat) : Nat → BitVec 64
  | 0 => z
  | k + 1 => z ^^^ un z n k >>> n
def undo (z : BitVec 64) (n : Nat) : BitVec 64 := un z n 2
def unmix (w : BitVec 64) : BitVec 64 := undo (undo (undo w 31 * i2) 27 * i1) 30
def step (s : BitVec 64) : BitVec 64 := s + gamma
def back (s : BitVec 64) : BitVec 64 := s - gamma
def word (s : BitVec 64) : BitVec 64 := mix (step s)
def jump (s n : BitVec 64) : BitVec 64 := s + n * gamma

theorem shr_shr (x : BitVec 64) (n m : Nat) : x >>> n >>> m = x >>> (n + m) := by
  apply BitVec.eq_of_getLsbD_eq
  intro i _
  simp only [BitVec.getLsbD_ushiftRight]
  rw [show n + (m + i) = n + m + i from by omega]
theorem shr_big (x : BitVec 64) (n : Nat) (h : 64 ≤ n) : x >>> n = 0#64 := by
  apply BitVec.eq_of_getLsbD_eq
  intro i _
  rw [BitVec.getLsbD_ushiftRight, BitVec.getLsbD_of_ge _ _ (by omega)]; simp
theorem xor_cancel (a b c : BitVec 64) : (a ^^^ b) ^^^ (a ^^^ c) = b ^^^ c := by
  rw [show (a ^^^ b) ^^^ (a ^^^ c) = (a ^^^ a) ^^^ (b ^^^ c) from by ac_rfl]; simp
theorem un_diff (z : BitVec 64) (n : Nat) : ∀ k, un z n (k + 1) ^^^ un z n k = z >>> (n * (k + 1))
  | 0 => by simp [un, BitVec.xor_comm, ← BitVec.xor_assoc]
  | k + 1 => by
    show (z ^^^ un z n (k + 1) >>> n) ^^^ (z ^^^ un z n k >>> n) = _
    rw [xor_cancel, ← BitVec.ushiftRight_xor_distrib, un_diff z n k, shr_shr, Nat.mul_succ n (k + 1)]
theorem un_fix (z : BitVec 64) (n k : Nat) (h : 64 ≤ n * (k + 1)) : un z n (k + 1) = un z n k := by
  have e := un_diff z n k
  rw [shr_big _ _ h] at e
  exact BitVec.xor_eq_zero_iff.1 e
theorem fix_unique (z x y : BitVec 64) (n : Nat) (hn : 22 ≤ n) (hx : z ^^^ x >>> n = x) (hy : z ^^^ y >>> n = y) : x = y := by
  have d : x ^^^ y = (x ^^^ y) >>> n := by
    rw [BitVec.ushiftRight_xor_distrib]
    calc x ^^^ y = (z ^^^ x >>> n) ^^^ (z ^^^ y >>> n) := by rw [hx, hy]
      _ = _ := xor_cancel _ _ _
  have d2 : x ^^^ y = (x ^^^ y) >>> (n + n + n) := by
    rw [← shr_shr, ← shr_shr, ← d, ← d, ← d]
  rw [shr_big _ _ (by omega)] at d2
  exact BitVec.xor_eq_zero_iff.1 d2
theorem undo_is (z x : BitVec 64) (n : Nat) (hn : 22 ≤ n) (hx : z ^^^ x >>> n = x) : x = undo z n :=
  fix_unique z x _ n hn hx (un_fix z n 2 (by omega))
theorem undo_fix (z : BitVec 64) (n : Nat) (hn : 22 ≤ n) : z ^^^ undo z n >>> n = undo z n := un_fix z n 2 (by omega)
theorem xx (a e : BitVec 64) : a ^^^ e ^^^ e = a := by rw [BitVec.xor_assoc, BitVec.xor_self, BitVec.xor_zero]
theorem sh_undo (z : BitVec 64) (n : Nat) (hn : 22 ≤ n) : sh (undo z n) n = z := by
  unfold sh
  have h := undo_fix z n hn
  generalize undo z n = u at h ⊢
  have h2 : (z ^^^ u >>> n) ^^^ u >>> n = u ^^^ u >>> n := by rw [h]
  rw [xx] at h2
  exact h2.symm
theorem undo_sh (z : BitVec 64) (n : Nat) (hn : 22 ≤ n) : undo (sh z n) n = z :=
  (undo_is (sh z n) z n hn (by unfold sh; rw [xx])).symm
theorem m1 (x : BitVec 64) : x * t1 * i1 = x := by rw [BitVec.mul_assoc, show t1 * i1 = 1#64 from by decide +kernel]; simp
theorem m1' (x : BitVec 64) : x * i1 * t1 = x := by rw [BitVec.mul_assoc, show i1 * t1 = 1#64 from by decide +kernel]; simp
theorem m2 (x : BitVec 64) : x * t2 * i2 = x := by rw [BitVec.mul_assoc, show t2 * i2 = 1#64 from by decide +kernel]; simp
theorem m2' (x : BitVec 64) : x * i2 * t2 = x := by rw [BitVec.mul_assoc, show i2 * t2 = 1#64 from by decide +kernel]; simp
theorem unmix_mix (z : BitVec 64) : unmix (mix z) = z := by
  unfold unmix mix
  rw [undo_sh _ _ (by omega), m2, undo_sh _ _ (by omega), m1, undo_sh _ _ (by omega)]
theorem mix_unmix (z : BitVec 64) : mix (unmix z) = z := by
  unfold unmix mix
  rw [sh_undo _ _ (by omega), m1', sh_undo _ _ (by omega), m2', sh_undo _ _ (by omega)]
theorem back_step (s : BitVec 64) : back (step s) = s := by unfold back step; exact BitVec.add_sub_cancel ..
theorem step_back (s : BitVec 64) : step (back s) = s := by unfold back step; exact BitVec.sub_add_cancel ..
theorem mix_inj {a b : BitVec 64} : mix a = mix b ↔ a = b := ⟨fun h => by rw [← unmix_mix a, h, unmix_mix], fun h => by rw [h]⟩
theorem jump_inj (s : BitVec 64) {n m : BitVec 64} : jump s n = jump s m ↔ n = m := by
  refine ⟨fun h => ?_, fun h => by rw [h]⟩
  have e : n * gamma = m * gamma := by
    have := congrArg (· - s) h
    simpa [jump, BitVec.add_comm s, BitVec.add_sub_cancel] using this
  have g : ∀ x : BitVec 64, x * gamma * gi = x := fun x => by rw [BitVec.mul_assoc, show gamma * gi = 1#64 from by decide +kernel]; simp
  rw [← g n, e, g]
theorem word_inj {a b : BitVec 64} : word a = word b ↔ a = b := by
  unfold word
  rw [mix_inj]
  exact ⟨fun h => by rw [← back_step a, h, back_step], fun h => by rw [h]⟩
end Mx
end Go.Proofs.Ytmihcjbnieoodaa
