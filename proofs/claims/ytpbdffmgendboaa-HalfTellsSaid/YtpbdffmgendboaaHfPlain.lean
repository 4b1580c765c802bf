/- Halves of blocks: jumps, in plain Lean. -/
namespace Go.Proofs.Ytpbdffmgendboaa
namespace Hf
structure St where
  c : BitVec 128
  k0 : BitVec 32
  k1 : BitVec 32
  b : Bool
def step (s : St) : St := ⟨if s.b then s.c + 1#128 else s.c, s.k0, s.k1, !s.b⟩
def back (s : St) : St := ⟨if s.b then s.c else s.c - 1#128, s.k0, s.k1, !s.b⟩
def odd (n : BitVec 128) : Bool := n.getLsbD 0
def pre (s : St) (n : BitVec 128) : St := if odd n then step s else s
def jump (s : St) (n : BitVec 128) : St := { pre s n with c := (pre s n).c + n >>> 1 }
theorem back_step (s : St) : back (step s) = s := by
  obtain ⟨c, k0, k1, b⟩ := s
  cases b <;> simp [back, step, BitVec.add_sub_cancel]
theorem step_back (s : St) : step (back s) = s := by
  obtain ⟨c, k0, k1, b⟩ := s
  cases b <;> simp [back, step, BitVec.sub_add_cancel]
theorem odd_nat (n : BitVec 128) : odd n = decide (n.toNat % 2 = 1) := by
  unfold odd
  rw [BitVec.getLsbD, Nat.testBit_zero]
/-- which half of all -/
def pos (s : St) : Nat := 2 * s.c.toNat + s.b.toNat
def R : Nat := 680564733841876926926749214863536422912
theorem st_ext {s t : St} (h0 : s.k0 = t.k0) (h1 : s.k1 = t.k1) (hp : pos s = pos t) : s = t := by
  obtain ⟨c, k0, k1, b⟩ := s
  obtain ⟨c', k0', k1', b'⟩ := t
  simp only [pos] at h0 h1 hp
  subst h0; subst h1
  have hb : b = b' := by cases b <;> cases b' <;> simp at hp ⊢ <;> omega
  subst hb
  have hc : c = c' := BitVec.eq_of_toNat_eq (by omega)
  rw [hc]
theorem jump_k0 (s : St) (n : BitVec 128) : (jump s n).k0 = s.k0 := by simp only [jump, pre]; split <;> rfl
theorem jump_k1 (s : St) (n : BitVec 128) : (jump s n).k1 = s.k1 := by simp only [jump, pre]; split <;> rfl
theorem half_nat (n : BitVec 128) : (n >>> 1).toNat = n.toNat / 2 := by
  rw [BitVec.toNat_ushiftRight, Nat.shiftRight_eq_div_pow]
theorem step_pos (s : St) : pos (step s) = (pos s + 1) % R := by
  obtain ⟨c, k0, k1, b⟩ := s
  have := c.isLt
  cases b
  · simp [pos, step, R]; omega
  · simp [pos, step, R, BitVec.toNat_add]; omega
theorem jump_pos (s : St) (n : BitVec 128) : pos (jump s n) = (pos s + n.toNat) % R := by
  have hn := n.isLt
  have e : pos (jump s n) = (pos (pre s n) + 2 * (n.toNat / 2)) % R := by
    simp only [jump]
    generalize pre s n = t
    obtain ⟨c, k0, k1, b⟩ := t
    have := c.isLt
    simp only [pos, BitVec.toNat_add, half_nat, R]
    cases b <;> simp <;> omega
  rw [e, pre, odd_nat]
  by_cases h : n.toNat % 2 = 1
  · rw [if_pos (by simpa using h), step_pos]
    unfold R; omega
  · rw [if_neg (by simpa using h)]
    unfold R; omega
theorem jump_jump (s : St) (n m : BitVec 128) (h : n.toNat + m.toNat < 2 ^ 128) : jump (jump s n) m = jump s (n + m) := by
  refine st_ext (by simp [jump_k0]) (by simp [jump_k1]) ?_
  rw [jump_pos, jump_pos, jump_pos, BitVec.toNat_add]
  unfold R; omega
theorem jump_one (s : St) : jump s 1#128 = step s := by
  refine st_ext (jump_k0 _ _) (jump_k1 _ _) ?_
  rw [jump_pos, step_pos]; rfl
theorem jump_zero (s : St) : jump s 0#128 = s := by
  refine st_ext (jump_k0 _ _) (jump_k1 _ _) ?_
  rw [jump_pos]
  have : pos s < R := by
    obtain ⟨c, k0, k1, b⟩ := s
    have := c.isLt
    cases b <;> simp [pos, R] <;> omega
  show (pos s + 0) % R = pos s
  rw [Nat.add_zero, Nat.mod_eq_of_lt this]
theorem jump_inj (s : St) (n m : BitVec 128) : jump s n = jump s m ↔ n = m := by
  refine ⟨fun h => ?_, fun h => by rw [h]⟩
  have e := congrArg pos h
  rw [jump_pos, jump_pos] at e
  have h1 := n.isLt
  have h2 := m.isLt
  apply BitVec.eq_of_toNat_eq
  unfold R at e
  omega
end Hf
end Go.Proofs.Ytpbdffmgendboaa
