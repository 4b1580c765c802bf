/- xoshiro256** in plain Lean. -/
namespace Go.Proofs.Ytpkfgpbneogijaa
structure St where
  a : BitVec 64
  b : BitVec 64
  c : BitVec 64
  d : BitVec 64
deriving DecidableEq
namespace Xo
theorem ext {x y : St} (h0 : x.a = y.a) (h1 : x.b = y.b) (h2 : x.c = y.c) (h3 : x.d = y.d) : x = y := by
  cases x; cases y; simp_all
def zero : St := ⟨0#64, 0#64, 0#64, 0#64⟩
def rotl (x : BitVec 64) (n : Nat) : BitVec 64 := x <<< n ||| x >>> (64 - n)
def word (s : St) : BitVec 64 := rotl (s.b * 5#64) 7 * 9#64
def step (s : St) : St := ⟨s.a ^^^ (s.d ^^^ s.b), s.b ^^^ (s.c ^^^ s.a), s.c ^^^ s.a ^^^ (s.b <<< 17), rotl (s.d ^^^ s.b) 45⟩
def solve (m : BitVec 64) : Nat → BitVec 64
  | 0 => m
  | k + 1 => m ^^^ (solve m k <<< 17)
def back (s : St) : St :=
  ⟨s.a ^^^ rotl s.d 19, solve (s.b ^^^ s.c) 4, s.c ^^^ (solve (s.b ^^^ s.c) 4 <<< 17) ^^^ (s.a ^^^ rotl s.d 19), rotl s.d 19 ^^^ solve (s.b ^^^ s.c) 4⟩
def add (s t : St) : St := ⟨s.a ^^^ t.a, s.b ^^^ t.b, s.c ^^^ t.c, s.d ^^^ t.d⟩

theorem rotl_bit (x : BitVec 64) (n i : Nat) (hn : n < 64) (hi : i < 64) : (rotl x n).getLsbD i = x.getLsbD (if i < n then i + (64 - n) else i - n) := by
  unfold rotl
  rw [BitVec.getLsbD_or, BitVec.getLsbD_shiftLeft, BitVec.getLsbD_ushiftRight]
  by_cases h : i < n
  · rw [if_pos h]; simp [h, Nat.add_comm]
  · rw [if_neg h, BitVec.getLsbD_of_ge x (64 - n + i) (by omega)]
    simp [h, hi]
theorem rotl_rotl (x : BitVec 64) (n m : Nat) (h : n + m = 64) (hn : 0 < n) (hm : 0 < m) : rotl (rotl x n) m = x := by
  apply BitVec.eq_of_getLsbD_eq
  intro i hi
  rw [rotl_bit _ _ _ (by omega) hi]
  split
  · rw [rotl_bit _ _ _ (by omega) (by omega), if_neg (by omega)]; congr 1; omega
  · rw [rotl_bit _ _ _ (by omega) (by omega), if_pos (by omega)]; congr 1; omega
theorem rotl_xor (x y : BitVec 64) (n : Nat) (hn : n < 64) : rotl (x ^^^ y) n = rotl x n ^^^ rotl y n := by
  apply BitVec.eq_of_getLsbD_eq
  intro i hi
  rw [BitVec.getLsbD_xor, rotl_bit _ _ _ hn hi, rotl_bit _ _ _ hn hi, rotl_bit _ _ _ hn hi, BitVec.getLsbD_xor]

theorem shl_shl (x : BitVec 64) (n m : Nat) : x <<< n <<< m = x <<< (n + m) := (BitVec.shiftLeft_add x n m).symm
theorem solve_of (b : BitVec 64) : solve (b ^^^ b <<< 17) 4 = b := by
  simp only [solve, BitVec.shiftLeft_xor_distrib, shl_shl]
  rw [show b <<< (17 + 17 + 17 + 17) = 0#64 from BitVec.shiftLeft_eq_zero (by omega), show b <<< (17 + 17 + 17 + 17 + 17) = 0#64 from BitVec.shiftLeft_eq_zero (by omega)]
  generalize b <<< 17 = p
  generalize b <<< (17 + 17) = q
  generalize b <<< (17 + 17 + 17) = r
  simp only [BitVec.xor_zero]
  rw [show b ^^^ p ^^^ (p ^^^ q ^^^ (q ^^^ r ^^^ r)) = (p ^^^ p) ^^^ (q ^^^ q) ^^^ (r ^^^ r) ^^^ b from by ac_rfl]
  simp
theorem solve_solves (m : BitVec 64) : solve m 4 ^^^ solve m 4 <<< 17 = m := by
  simp only [solve, BitVec.shiftLeft_xor_distrib, shl_shl]
  rw [show m <<< (17 + 17 + 17 + 17) = 0#64 from BitVec.shiftLeft_eq_zero (by omega), show m <<< (17 + 17 + 17 + 17 + 17) = 0#64 from BitVec.shiftLeft_eq_zero (by omega)]
  generalize m <<< 17 = p
  generalize m <<< (17 + 17) = q
  generalize m <<< (17 + 17 + 17) = r
  simp only [BitVec.xor_zero]
  rw [show (m ^^^ (p ^^^ (q ^^^ r))) ^^^ (p ^^^ (q ^^^ r)) = (p ^^^ p) ^^^ (q ^^^ q) ^^^ (r ^^^ r) ^^^ m from by ac_rfl]
  simp
theorem xx (a e : BitVec 64) : a ^^^ e ^^^ e = a := by rw [BitVec.xor_assoc, BitVec.xor_self, BitVec.xor_zero]
theorem acx (b c a p : BitVec 64) : b ^^^ (c ^^^ a) ^^^ (c ^^^ a ^^^ p) = b ^^^ p := by
  rw [show b ^^^ (c ^^^ a) ^^^ (c ^^^ a ^^^ p) = (c ^^^ c) ^^^ (a ^^^ a) ^^^ (b ^^^ p) from by ac_rfl]; simp
theorem back_step (s : St) : back (step s) = s := by
  obtain ⟨a, b, c, d⟩ := s
  have hr : rotl (rotl (d ^^^ b) 45) 19 = d ^^^ b := rotl_rotl _ 45 19 rfl (by omega) (by omega)
  have hs : solve (b ^^^ (c ^^^ a) ^^^ (c ^^^ a ^^^ b <<< 17)) 4 = b := by
    rw [acx b c a (b <<< 17)]
    exact solve_of b
  show (⟨a ^^^ (d ^^^ b) ^^^ rotl (rotl (d ^^^ b) 45) 19, solve (b ^^^ (c ^^^ a) ^^^ (c ^^^ a ^^^ b <<< 17)) 4,
    c ^^^ a ^^^ b <<< 17 ^^^ solve (b ^^^ (c ^^^ a) ^^^ (c ^^^ a ^^^ b <<< 17)) 4 <<< 17 ^^^ (a ^^^ (d ^^^ b) ^^^ rotl (rotl (d ^^^ b) 45) 19),
    rotl (rotl (d ^^^ b) 45) 19 ^^^ solve (b ^^^ (c ^^^ a) ^^^ (c ^^^ a ^^^ b <<< 17)) 4⟩ : St) = ⟨a, b, c, d⟩
  rw [hr, hs, xx a (d ^^^ b), xx d b, xx (c ^^^ a) (b <<< 17), xx c a]
theorem step_back (s : St) : step (back s) = s := by
  obtain ⟨a, b, c, d⟩ := s
  have hs := solve_solves (b ^^^ c)
  show (⟨a ^^^ rotl d 19 ^^^ (rotl d 19 ^^^ solve (b ^^^ c) 4 ^^^ solve (b ^^^ c) 4), solve (b ^^^ c) 4 ^^^ (c ^^^ solve (b ^^^ c) 4 <<< 17 ^^^ (a ^^^ rotl d 19) ^^^ (a ^^^ rotl d 19)),
    c ^^^ solve (b ^^^ c) 4 <<< 17 ^^^ (a ^^^ rotl d 19) ^^^ (a ^^^ rotl d 19) ^^^ solve (b ^^^ c) 4 <<< 17, rotl (rotl d 19 ^^^ solve (b ^^^ c) 4 ^^^ solve (b ^^^ c) 4) 45⟩ : St) = ⟨a, b, c, d⟩
  generalize solve (b ^^^ c) 4 = y at hs ⊢
  generalize y <<< 17 = p at hs ⊢
  have h3 : rotl (rotl d 19) 45 = d := rotl_rotl _ 19 45 rfl (by omega) (by omega)
  rw [BitVec.xor_assoc (rotl d 19) y y, BitVec.xor_self, BitVec.xor_zero, h3]
  generalize rotl d 19 = r
  rw [BitVec.xor_assoc a r r, BitVec.xor_self, BitVec.xor_zero, show y ^^^ (c ^^^ p ^^^ (a ^^^ r) ^^^ (a ^^^ r)) = (a ^^^ a) ^^^ (r ^^^ r) ^^^ ((y ^^^ p) ^^^ c) from by ac_rfl, hs,
    show c ^^^ p ^^^ (a ^^^ r) ^^^ (a ^^^ r) ^^^ p = (p ^^^ p) ^^^ (a ^^^ a) ^^^ (r ^^^ r) ^^^ c from by ac_rfl]
  simp only [BitVec.xor_self, BitVec.zero_xor]
  rw [BitVec.xor_assoc, BitVec.xor_self, BitVec.xor_zero]
theorem step_add (s t : St) : step (add s t) = add (step s) (step t) := by
  obtain ⟨a, b, c, d⟩ := s
  obtain ⟨e, f, g, h⟩ := t
  show (⟨a ^^^ e ^^^ (d ^^^ h ^^^ (b ^^^ f)), b ^^^ f ^^^ (c ^^^ g ^^^ (a ^^^ e)), c ^^^ g ^^^ (a ^^^ e) ^^^ (b ^^^ f) <<< 17, rotl (d ^^^ h ^^^ (b ^^^ f)) 45⟩ : St) =
    ⟨a ^^^ (d ^^^ b) ^^^ (e ^^^ (h ^^^ f)), b ^^^ (c ^^^ a) ^^^ (f ^^^ (g ^^^ e)), c ^^^ a ^^^ b <<< 17 ^^^ (g ^^^ e ^^^ f <<< 17), rotl (d ^^^ b) 45 ^^^ rotl (h ^^^ f) 45⟩
  rw [← rotl_xor _ _ _ (by omega), BitVec.shiftLeft_xor_distrib]
  generalize b <<< 17 = p
  generalize f <<< 17 = q
  rw [show a ^^^ e ^^^ (d ^^^ h ^^^ (b ^^^ f)) = a ^^^ (d ^^^ b) ^^^ (e ^^^ (h ^^^ f)) from by ac_rfl, show b ^^^ f ^^^ (c ^^^ g ^^^ (a ^^^ e)) = b ^^^ (c ^^^ a) ^^^ (f ^^^ (g ^^^ e)) from by ac_rfl,
    show c ^^^ g ^^^ (a ^^^ e) ^^^ (p ^^^ q) = c ^^^ a ^^^ p ^^^ (g ^^^ e ^^^ q) from by ac_rfl, show d ^^^ h ^^^ (b ^^^ f) = d ^^^ b ^^^ (h ^^^ f) from by ac_rfl]
theorem add_add (s t : St) : add (add s t) t = s := by
  obtain ⟨a, b, c, d⟩ := s
  obtain ⟨e, f, g, h⟩ := t
  show (⟨a ^^^ e ^^^ e, b ^^^ f ^^^ f, c ^^^ g ^^^ g, d ^^^ h ^^^ h⟩ : St) = ⟨a, b, c, d⟩
  rw [xx, xx, xx, xx]
theorem add_comm (s t : St) : add s t = add t s := by
  unfold add
  rw [BitVec.xor_comm s.a, BitVec.xor_comm s.b, BitVec.xor_comm s.c, BitVec.xor_comm s.d]
theorem rotl_zero (n : Nat) : rotl 0#64 n = 0#64 := by simp [rotl]
theorem step_zero : step zero = zero := by decide
theorem back_zero : back zero = zero := by decide
theorem step_inj {s t : St} (h : step s = step t) : s = t := by rw [← back_step s, h, back_step]
theorem step_ne (s : St) : step s = zero ↔ s = zero := ⟨fun h => step_inj (h.trans step_zero.symm), fun h => by rw [h, step_zero]⟩
theorem back_ne (s : St) : back s = zero ↔ s = zero := ⟨fun h => by rw [← step_back s, h, step_zero], fun h => by rw [h, back_zero]⟩
def it : Nat → St → St
  | 0, s => s
  | n + 1, s => step (it n s)
theorem it_add (n m : Nat) (s : St) : it (n + m) s = it m (it n s) := by
  induction m with
  | zero => rfl
  | succ m ih => show step (it (n + m) s) = step (it m (it n s)); rw [ih]
theorem it_ne (n : Nat) (s : St) : it n s = zero ↔ s = zero := by
  induction n with
  | zero => rfl
  | succ n ih => show step (it n s) = zero ↔ _; rw [step_ne, ih]
theorem it_lin (n : Nat) (s t : St) : it n (add s t) = add (it n s) (it n t) := by
  induction n with
  | zero => rfl
  | succ n ih => show step (it n (add s t)) = _; rw [ih, step_add]; rfl
end Xo
end Go.Proofs.Ytpkfgpbneogijaa
