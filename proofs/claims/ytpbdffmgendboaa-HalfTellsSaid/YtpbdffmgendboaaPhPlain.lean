/- Philox in plain Lean: rounds, what undoes them, so many of them. -/
namespace Go.Proofs.Ytpbdffmgendboaa
def mulhi32 (x : BitVec 32) (c : Nat) : BitVec 32 := BitVec.ofNat 32 (x.toNat * c / 4294967296)
def inv32 (n : BitVec 32) : Nat → BitVec 32
  | 0 => n
  | k + 1 => inv32 n k * (2 - n * inv32 n k)
structure Blk where
  a : BitVec 32
  b : BitVec 32
  c : BitVec 32
  d : BitVec 32
deriving DecidableEq
structure Key where
  a : BitVec 32
  b : BitVec 32
deriving DecidableEq
namespace Ph
def next (k : Key) : Key := ⟨k.a + 0x9e3779b9#32, k.b + 0xbb67ae85#32⟩
def round (b : Blk) (k : Key) : Blk := ⟨mulhi32 b.c 0xcd9e8d57 ^^^ b.b ^^^ k.a, b.c * 0xcd9e8d57#32, mulhi32 b.a 0xd2511f53 ^^^ b.d ^^^ k.b, b.a * 0xd2511f53#32⟩
def inv1 : BitVec 32 := 0x991a7cdb#32
def inv2 : BitVec 32 := 0x6d7cae67#32
def unround (b : Blk) (k : Key) : Blk :=
  ⟨b.d * inv1, b.a ^^^ mulhi32 (b.b * inv2) 0xcd9e8d57 ^^^ k.a, b.b * inv2, b.c ^^^ mulhi32 (b.d * inv1) 0xd2511f53 ^^^ k.b⟩
end Ph


namespace Ph
theorem ext {x y : Blk} (h0 : x.a = y.a) (h1 : x.b = y.b) (h2 : x.c = y.c) (h3 : x.d = y.d) : x = y := by
  cases x; cases y; simp_all
theorem back1 (x : BitVec 32) : x * 0xd2511f53#32 * inv1 = x := by
  rw [BitVec.mul_assoc, show (0xd2511f53#32 * inv1 : BitVec 32) = 1#32 from by decide]; simp
theorem back2 (x : BitVec 32) : x * 0xcd9e8d57#32 * inv2 = x := by
  rw [BitVec.mul_assoc, show (0xcd9e8d57#32 * inv2 : BitVec 32) = 1#32 from by decide]; simp
theorem forth1 (x : BitVec 32) : x * inv1 * 0xd2511f53#32 = x := by
  rw [BitVec.mul_assoc, show (inv1 * 0xd2511f53#32 : BitVec 32) = 1#32 from by decide]; simp
theorem forth2 (x : BitVec 32) : x * inv2 * 0xcd9e8d57#32 = x := by
  rw [BitVec.mul_assoc, show (inv2 * 0xcd9e8d57#32 : BitVec 32) = 1#32 from by decide]; simp
theorem xx (h x k : BitVec 32) : h ^^^ x ^^^ k ^^^ h ^^^ k = x := by
  rw [show h ^^^ x ^^^ k ^^^ h ^^^ k = (h ^^^ h) ^^^ (k ^^^ k) ^^^ x from by ac_rfl]; simp
theorem xx1 (x h k : BitVec 32) : h ^^^ x ^^^ k ^^^ h ^^^ k = x := xx h x k
theorem xx' (h x k : BitVec 32) : h ^^^ (x ^^^ h ^^^ k) ^^^ k = x := by
  rw [show h ^^^ (x ^^^ h ^^^ k) ^^^ k = (h ^^^ h) ^^^ (k ^^^ k) ^^^ x from by ac_rfl]; simp
theorem unround_round (b : Blk) (k : Key) : unround (round b k) k = b := by
  apply ext <;> simp only [unround, round, back1, back2, xx]
theorem round_unround (b : Blk) (k : Key) : round (unround b k) k = b := by
  apply ext <;> simp only [unround, round, forth1, forth2, xx']

/- so many rounds, from the left -/
def step (s : Blk × Key) : Blk × Key := (round s.1 s.2, next s.2)
def it : Nat → Blk × Key → Blk × Key
  | 0, s => s
  | n + 1, s => step (it n s)
def mix (n : Nat) (b : Blk) (k : Key) : Blk := (it n (b, k)).1
def keyAt (n : Nat) (k : Key) : Key := (it n (⟨0, 0, 0, 0⟩, k)).2
theorem it_key (n : Nat) (b b' : Blk) (k : Key) : (it n (b, k)).2 = (it n (b', k)).2 := by
  induction n with
  | zero => rfl
  | succ n ih => simp [it, step, ih]
theorem it_key' (n : Nat) (b : Blk) (k : Key) : (it n (b, k)).2 = keyAt n k := it_key n b _ k
theorem keyAt_zero (k : Key) : keyAt 0 k = k := rfl
theorem keyAt_succ (n : Nat) (k : Key) : keyAt (n + 1) k = next (keyAt n k) := rfl
theorem mix_zero (b : Blk) (k : Key) : mix 0 b k = b := rfl
theorem mix_succ (n : Nat) (b : Blk) (k : Key) : mix (n + 1) b k = round (mix n b k) (keyAt n k) := by
  show round (it n (b, k)).1 (it n (b, k)).2 = _
  rw [it_key']; rfl
/- back, from the last key on: what is left of n rounds when j of them are undone -/
def unmixTo (n : Nat) (b : Blk) (k : Key) : Nat → Blk
  | 0 => b
  | j + 1 => unround (unmixTo n b k j) (keyAt (n - 1 - j) k)
def unmix (n : Nat) (b : Blk) (k : Key) : Blk := unmixTo n b k n
theorem unmixTo_mix (n : Nat) (b : Blk) (k : Key) : ∀ j, j ≤ n → unmixTo n (mix n b k) k j = mix (n - j) b k := by
  intro j
  induction j with
  | zero => intro _; rfl
  | succ j ih =>
    intro h
    rw [unmixTo, ih (by omega), show n - j = (n - 1 - j) + 1 from by omega, mix_succ, unround_round, show n - (j + 1) = n - 1 - j from by omega]
theorem unmix_mix (n : Nat) (b : Blk) (k : Key) : unmix n (mix n b k) k = b := by
  rw [unmix, unmixTo_mix n b k n (Nat.le_refl _), Nat.sub_self]; rfl
/- forth again -/
theorem mix_unmixTo (n : Nat) (b : Blk) (k : Key) : ∀ j, j ≤ n → ∀ i, i + j = n → ∀ x, unmixTo n b k n = x → mix i x k = unmixTo n b k j := by
  intro j hj i
  induction i generalizing j with
  | zero => intro h x hx; rw [mix_zero, ← hx, show j = n from by omega]
  | succ i ih =>
    intro h x hx
    rw [mix_succ, ih (j + 1) (by omega) (by omega) x hx, unmixTo, show n - 1 - j = i from by omega, round_unround]
theorem mix_unmix (n : Nat) (b : Blk) (k : Key) : mix n (unmix n b k) k = b :=
  mix_unmixTo n b k 0 (Nat.zero_le _) n (by omega) _ rfl
theorem it_add (n m : Nat) (s : Blk × Key) : it (n + m) s = it m (it n s) := by
  induction m with
  | zero => rfl
  | succ m ih => show step (it (n + m) s) = step (it m (it n s)); rw [ih]
theorem mix_add (n m : Nat) (b : Blk) (k : Key) : mix (n + m) b k = mix m (mix n b k) (keyAt n k) := by
  unfold mix; rw [it_add, show it n (b, k) = ((it n (b, k)).1, keyAt n k) from by rw [← it_key' n b k]]
theorem mix_inj (n : Nat) (a b : Blk) (k : Key) : mix n a k = mix n b k ↔ a = b :=
  ⟨fun h => by rw [← unmix_mix n a k, h, unmix_mix], fun h => by rw [h]⟩
theorem round_inj (a b : Blk) (k : Key) : round a k = round b k ↔ a = b :=
  ⟨fun h => by rw [← unround_round a k, h, unround_round], fun h => by rw [h]⟩
end Ph
end Go.Proofs.Ytpbdffmgendboaa
