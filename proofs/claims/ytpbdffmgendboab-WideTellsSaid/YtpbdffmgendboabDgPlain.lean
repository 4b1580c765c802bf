/- Digits by ten, and their order, in plain Lean. -/
import Derived.Test.YtpbdffmgendboabWsPlain
import GoSem.Op.String
namespace Go.Proofs.Ytpbdffmgendboab
namespace Dg
/-- the digits of a number, the lowest one first -/
def dsF : Nat → Nat → List Nat
  | 0, _ => []
  | f + 1, n => if n < 10 then [n] else n % 10 :: dsF f (n / 10)
def ds (n : Nat) : List Nat := dsF 39 n
theorem dsF_step (f n : Nat) (h : 10 ≤ n) : dsF (f + 1) n = n % 10 :: dsF f (n / 10) := by
  show (if n < 10 then _ else _) = _
  rw [if_neg (by omega)]
theorem dsF_small (f n : Nat) (h : n < 10) : dsF (f + 1) n = [n] := by
  show (if n < 10 then _ else _) = _
  rw [if_pos h]
theorem pow10 (k : Nat) : 10 ^ (k + 1) = 10 * 10 ^ k := by rw [Nat.pow_succ, Nat.mul_comm]
theorem dsF_same : ∀ (f g n : Nat), n < 10 ^ (f + 1) → n < 10 ^ (g + 1) → dsF (f + 1) n = dsF (g + 1) n := by
  intro f
  induction f with
  | zero =>
    intro g n h _
    rw [dsF_small _ _ (by simpa using h), dsF_small _ _ (by simpa using h)]
  | succ f ih =>
    intro g n hf hg
    by_cases h : n < 10
    · rw [dsF_small _ _ h, dsF_small _ _ h]
    · cases g with
      | zero => exact absurd (by simpa using hg) h
      | succ g =>
        rw [dsF_step (f + 1) n (by omega), dsF_step (g + 1) n (by omega), ih g (n / 10) (by have := pow10 (f + 1); omega) (by have := pow10 (g + 1); omega)]
abbrev M : Nat := 340282366920938463463374607431768211456
theorem ds_step (n : Nat) (h : 10 ≤ n) (hm : n < M) : ds n = n % 10 :: ds (n / 10) := by
  have e : (10 : Nat) ^ 38 = 100000000000000000000000000000000000000 := by decide
  have e' : (10 : Nat) ^ 39 = 1000000000000000000000000000000000000000 := by decide
  unfold M at hm
  unfold ds
  rw [dsF_step 38 n h, dsF_same 37 38 (n / 10) (by show _ < 10 ^ 38; omega) (by show _ < 10 ^ 39; omega)]
theorem ds_small (n : Nat) (h : n < 10) : ds n = [n] := dsF_small 38 n h
theorem digit : ∀ (f n d : Nat), d ∈ dsF f n → d < 10 := by
  intro f
  induction f with
  | zero => intro n d h; cases h
  | succ f ih =>
    intro n d h
    by_cases hn : n < 10
    · rw [dsF_small _ _ hn] at h; simp at h; omega
    · rw [dsF_step _ _ (by omega)] at h
      rcases List.mem_cons.1 h with h | h
      · omega
      · exact ih _ _ h
theorem len_le : ∀ (f n : Nat), (dsF f n).length ≤ f := by
  intro f
  induction f with
  | zero => intro n; exact Nat.le_refl _
  | succ f ih =>
    intro n
    by_cases hn : n < 10
    · rw [dsF_small _ _ hn]; simp
    · rw [dsF_step _ _ (by omega)]; have := ih (n / 10); simp; omega
theorem len_pos (f n : Nat) : 0 < (dsF (f + 1) n).length := by
  by_cases hn : n < 10
  · rw [dsF_small _ _ hn]; simp
  · rw [dsF_step _ _ (by omega)]; simp
theorem low : ∀ (f n : Nat), 1 ≤ n → 10 ^ ((dsF f n).length - 1) ≤ n := by
  intro f
  induction f with
  | zero => intro n h; exact h
  | succ f ih =>
    intro n h
    by_cases hn : n < 10
    · rw [dsF_small _ _ hn]; exact h
    · rw [dsF_step _ _ (by omega)]
      have := ih (n / 10) (by omega)
      rw [List.length_cons, Nat.add_sub_cancel]
      rcases hl : (dsF f (n / 10)).length with _ | k
      · exact h
      · rw [hl, Nat.add_sub_cancel] at this; rw [pow10]; omega
theorem high : ∀ (f n : Nat), n < 10 ^ f → n < 10 ^ (dsF f n).length := by
  intro f
  induction f with
  | zero => intro n h; exact h
  | succ f ih =>
    intro n h
    by_cases hn : n < 10
    · rw [dsF_small _ _ hn]; exact hn
    · rw [dsF_step _ _ (by omega), List.length_cons, pow10]
      have := ih (n / 10) (by have := pow10 f; omega)
      omega
theorem m_lt (n : Nat) (h : n < M) : n < 10 ^ 39 := by
  have e' : (10 : Nat) ^ 39 = 1000000000000000000000000000000000000000 := by decide
  unfold M at h; omega
/-- the number of digits, the highest one first -/
def big : List Nat → Nat
  | [] => 0
  | d :: l => d * 10 ^ l.length + big l
theorem big_snoc (d : Nat) : ∀ l : List Nat, big (l ++ [d]) = 10 * big l + d
  | [] => by simp [big]
  | a :: l => by
    rw [List.cons_append, big, big, big_snoc d l, List.length_append, List.length_singleton, pow10, Nat.mul_add, ← Nat.add_assoc]
    rw [Nat.mul_left_comm]
theorem big_ds : ∀ (f n : Nat), n < 10 ^ f → big (dsF f n).reverse = n := by
  intro f
  induction f with
  | zero => intro n h; have : n = 0 := by simpa using h
            subst this; rfl
  | succ f ih =>
    intro n h
    by_cases hn : n < 10
    · rw [dsF_small _ _ hn]; simp [big]
    · rw [dsF_step _ _ (by omega), List.reverse_cons, big_snoc, ih (n / 10) (by have := pow10 f; omega)]; omega
theorem big_lt : ∀ l : List Nat, (∀ d ∈ l, d < 10) → big l < 10 ^ l.length
  | [], _ => by simp [big]
  | a :: l, h => by
    have h1 := big_lt l (fun d hd => h d (List.mem_cons_of_mem _ hd))
    have h2 := h a (List.mem_cons_self ..)
    rw [big, List.length_cons, pow10]
    have : a * 10 ^ l.length ≤ 9 * 10 ^ l.length := Nat.mul_le_mul_right _ (by omega)
    omega
/-- a digit's byte -/
def byte (d : Nat) : UInt8 := UInt8.ofNat (48 + d)
theorem byte_nat (d : Nat) (h : d < 10) : (byte d).toNat = 48 + d := by
  unfold byte; rw [UInt8.toNat_ofNat']; omega
theorem byte_lt (d e : Nat) (hd : d < 10) (he : e < 10) : decide (byte d < byte e) = decide (d < e) := by
  rw [decide_eq_decide, UInt8.lt_iff_toNat_lt, byte_nat d hd, byte_nat e he]; omega
theorem byte_eq (d e : Nat) (hd : d < 10) (he : e < 10) : (byte d == byte e) = decide (d = e) := by
  rw [Bool.eq_iff_iff, beq_iff_eq, decide_eq_true_iff]
  constructor
  · intro h; have := congrArg UInt8.toNat h; rw [byte_nat d hd, byte_nat e he] at this; omega
  · rintro rfl; rfl
theorem less : ∀ x y : List Nat, x.length = y.length → (∀ d ∈ x, d < 10) → (∀ d ∈ y, d < 10) → Op.bytesLess (x.map byte) (y.map byte) = decide (big x < big y)
  | [], [], _, _, _ => rfl
  | [], _ :: _, h, _, _ => by cases h
  | _ :: _, [], h, _, _ => by cases h
  | a :: x, b :: y, h, hx, hy => by
    have hl : x.length = y.length := by simpa using h
    have hx' := fun d hd => hx d (List.mem_cons_of_mem _ hd)
    have hy' := fun d hd => hy d (List.mem_cons_of_mem _ hd)
    have ih := less x y hl hx' hy'
    have ha := hx a (List.mem_cons_self ..)
    have hb := hy b (List.mem_cons_self ..)
    have l1 := big_lt x hx'
    have l2 := big_lt y hy'
    rw [hl] at l1
    show (decide (byte a < byte b) || (byte a == byte b && Op.bytesLess (x.map byte) (y.map byte))) = _
    rw [byte_lt a b ha hb, byte_eq a b ha hb, ih, big, big, hl]
    rcases Nat.lt_trichotomy a b with h | h | h
    · have : (a + 1) * 10 ^ y.length ≤ b * 10 ^ y.length := Nat.mul_le_mul_right _ (by omega)
      rw [Nat.add_mul] at this
      have e : a * 10 ^ y.length + big x < b * 10 ^ y.length + big y := by omega
      rw [decide_eq_true h, decide_eq_true e]; rfl
    · subst h
      rw [decide_eq_false (by omega), decide_eq_true rfl, Bool.false_or, Bool.true_and, decide_eq_decide]; omega
    · have : (b + 1) * 10 ^ y.length ≤ a * 10 ^ y.length := Nat.mul_le_mul_right _ (by omega)
      rw [Nat.add_mul] at this
      have e : ¬ (a * 10 ^ y.length + big x < b * 10 ^ y.length + big y) := by omega
      rw [decide_eq_false (show ¬ a < b by omega), decide_eq_false (show ¬ a = b by omega), decide_eq_false e]; rfl
/-- a number's print -/
def text (n : Nat) : List UInt8 := (ds n).reverse.map byte
def str (n : Nat) : ByteArray := ⟨(text n).toArray⟩
def len (n : Nat) : Nat := (ds n).length
theorem text_len (n : Nat) : (text n).length = len n := by simp [text, len]
theorem len_lt (n : Nat) : len n ≤ 39 := len_le 39 n
def gt (a b : Nat) : Bool := !(Op.bytesLess (text a) (text b) || (text a == text b))
theorem text_less {a b : Nat} (ha : a < M) (hb : b < M) (h : len a = len b) : Op.bytesLess (text a) (text b) = decide (a < b) := by
  unfold text ds
  rw [less _ _ (by simpa [len, ds] using h) (fun d hd => digit 39 a d (List.mem_reverse.1 hd)) (fun d hd => digit 39 b d (List.mem_reverse.1 hd))]
  rw [big_ds 39 a (m_lt a ha), big_ds 39 b (m_lt b hb)]
theorem byte_inj : ∀ x y : List Nat, (∀ d ∈ x, d < 10) → (∀ d ∈ y, d < 10) → x.map byte = y.map byte → x = y
  | [], [], _, _, _ => rfl
  | [], _ :: _, _, _, h => by cases h
  | _ :: _, [], _, _, h => by cases h
  | a :: x, b :: y, hx, hy, h => by
    rw [List.map_cons, List.map_cons, List.cons.injEq] at h
    have ha := hx a (List.mem_cons_self ..)
    have hb := hy b (List.mem_cons_self ..)
    have e := congrArg UInt8.toNat h.1
    rw [byte_nat a ha, byte_nat b hb] at e
    rw [byte_inj x y (fun d hd => hx d (List.mem_cons_of_mem _ hd)) (fun d hd => hy d (List.mem_cons_of_mem _ hd)) h.2, show a = b from by omega]
theorem text_eq {a b : Nat} (ha : a < M) (hb : b < M) : (text a == text b) = decide (a = b) := by
  rw [Bool.eq_iff_iff, beq_iff_eq, decide_eq_true_iff]
  constructor
  · intro h
    have := byte_inj _ _ (fun d hd => digit 39 a d (List.mem_reverse.1 hd)) (fun d hd => digit 39 b d (List.mem_reverse.1 hd)) h
    have e := congrArg big this
    unfold ds at e
    rwa [big_ds 39 a (m_lt a ha), big_ds 39 b (m_lt b hb)] at e
  · rintro rfl; rfl
theorem gt_is {a b : Nat} (ha : a < M) (hb : b < M) (h : len a = len b) : gt a b = decide (b < a) := by
  unfold gt
  rw [text_less ha hb h, text_eq ha hb]
  rcases Nat.lt_trichotomy a b with h | h | h
  · rw [decide_eq_true h, decide_eq_false (by omega), decide_eq_false (by omega)]; rfl
  · rw [decide_eq_false (by omega), decide_eq_true h, decide_eq_false (by omega)]; rfl
  · rw [decide_eq_false (by omega), decide_eq_false (by omega), decide_eq_true h]; rfl
theorem len_mono {a b : Nat} (ha : a < M) (hb : b < M) (h : len a < len b) : a < b := by
  have h1 := high 39 a (m_lt a ha)
  have p := len_pos 38 a
  by_cases hz : 1 ≤ b
  · have h2 := low 39 b hz
    have h3 : 10 ^ (dsF 39 a).length ≤ 10 ^ ((dsF 39 b).length - 1) := Nat.pow_le_pow_right (by decide) (by unfold len ds at h; omega)
    exact Nat.lt_of_lt_of_le h1 (Nat.le_trans h3 h2)
  · have : b = 0 := by omega
    subst this
    unfold len ds at h
    rw [dsF_small 38 0 (by decide)] at h
    have p' : 0 < (dsF 39 a).length := p
    simp only [List.length_singleton] at h
    omega
/-- the longer one, or the later one of those as long, is the greater one -/
theorem order_lt {a b : Nat} (ha : a < M) (hb : b < M) (h : a < b) : len a < len b ∨ (len a = len b ∧ gt a b = false) := by
  rcases Nat.lt_trichotomy (len a) (len b) with l | l | l
  · exact .inl l
  · exact .inr ⟨l, by rw [gt_is ha hb l]; exact decide_eq_false (by omega)⟩
  · have := len_mono hb ha l; omega
theorem order_eq {a : Nat} (ha : a < M) : gt a a = false := by rw [gt_is ha ha rfl]; exact decide_eq_false (by omega)
theorem order_gt {a b : Nat} (ha : a < M) (hb : b < M) (h : b < a) : len b < len a ∨ (len a = len b ∧ gt a b = true) := by
  rcases Nat.lt_trichotomy (len b) (len a) with l | l | l
  · exact .inl l
  · exact .inr ⟨l.symm, by rw [gt_is ha hb l.symm]; exact decide_eq_true h⟩
  · have := len_mono ha hb l; omega
/-- one more digit told -/
theorem ten_more (n : Nat) (hm : n < M) (h : n / 10 ≠ 0) : (ds n).reverse = (ds (n / 10)).reverse ++ [n % 10] := by
  rw [ds_step n (by omega) hm, List.reverse_cons]
theorem ten_last (n : Nat) (h : n / 10 = 0) : (ds n).reverse = [n % 10] := by
  rw [ds_small n (by omega)]; simp; omega
end Dg
end Go.Proofs.Ytpbdffmgendboab
