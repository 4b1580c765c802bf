/- The reference's bytes and digits, in plain Lean; a slice of the call's own made shorter. -/
import Derived.Test.YtpbdffmgendboabByPlain
import Derived.Test.YtpbdffmgendboabSl6
import Derived.Test.YtpbdffmgendboabShPlain
namespace Go.Proofs.Ytpbdffmgendboab
open Go Go.RowKit
namespace Sx
variable {w0 w : World} {bs : List Bx} {rs : List Rx}
theorem Own.take (h : Own w0 w bs rs) (i m : Nat) {g k cap : Nat} {E : TypeId} {xs ys : List Value} (hi : rs[i]? = some ⟨true, .slice (some ⟨g, 0, none⟩) k cap, E, 1, k, xs⟩) (hm : m ≤ k) (hy : xs.take m = ys) :
    Own w0 w bs (rs.set i ⟨true, .slice (some ⟨g, 0, none⟩) m cap, E, 1, m, ys⟩) := by
  have h0 : w.ownsRow w0.heap.size E 1 (.slice (some ⟨g, 0, none⟩) k cap) k xs := h.row i _ hi rfl
  refine h.grow hi rfl (r' := ⟨true, .slice (some ⟨g, 0, none⟩) m cap, E, 1, m, ys⟩) ?_ ⟨rfl, rfl, rfl, Nat.le_refl _, fun _ _ _ => rfl⟩ (Or.inl rfl)
  rcases h0.2 with ⟨e, _⟩ | ⟨g', cap', cur, e, hb, hg, hc, hx, hs, ht⟩
  · cases e
  · cases e
    refine ⟨by rw [← hy, List.length_take, h0.1]; show min m (k * 1) = m * 1; omega, .inr ⟨g, cap, cur, rfl, hb, hg, Nat.le_trans hm hc, hx, hs, ?_⟩⟩
    show cur.toList.take (m * 1) = ys
    rw [← hy, ← ht, List.take_take, Nat.min_eq_left (by omega), Nat.mul_one]
end Sx
namespace Bi
theorem take (f : Nat → Bool) (n m : Nat) (h : m ≤ n) : (bis f n).take m = bis f m := by
  unfold bis
  rw [← List.map_take, List.take_range, Nat.min_eq_left h]
end Bi
namespace By
/-- the upper bits of a byte -/
def part (x : BitVec 128) (i t : Nat) : Nat := x.toNat / 2 ^ (8 * i + t) % 2 ^ (8 - t)
theorem part_top (x : BitVec 128) (i : Nat) : part x i 8 = 0 := by unfold part; rw [Nat.sub_self, Nat.pow_zero, Nat.mod_one]
theorem part_zero (x : BitVec 128) (i : Nat) : part x i 0 = put x i := rfl
theorem part_lt (x : BitVec 128) (i t : Nat) : part x i t < 256 := by
  have h : part x i t < 2 ^ (8 - t) := Nat.mod_lt _ (Nat.pow_pos (by decide))
  have : (2 : Nat) ^ (8 - t) ≤ 2 ^ 8 := Nat.pow_le_pow_right (by decide) (by omega)
  omega
theorem part_step (x : BitVec 128) (i t : Nat) (h : t < 8) : 2 * part x i (t + 1) + (x.getLsbD (8 * i + t)).toNat = part x i t := by
  have d := Bi.div_bit x (8 * i + t)
  unfold part
  rw [d, show 8 * i + (t + 1) = 8 * i + t + 1 from by omega]
  have e : (2 : Nat) ^ (8 - t) = 2 * 2 ^ (8 - (t + 1)) := by rw [← Nat.pow_succ']; congr 1; omega
  rw [e, Nat.mod_mul]
  have hb := Bi.bl (x.getLsbD (8 * i + t))
  rw [show (2 * (x.toNat / 2 ^ (8 * i + t + 1)) + (x.getLsbD (8 * i + t)).toNat) % 2 = (x.getLsbD (8 * i + t)).toNat from by omega,
    show (2 * (x.toNat / 2 ^ (8 * i + t + 1)) + (x.getLsbD (8 * i + t)).toNat) / 2 = x.toNat / 2 ^ (8 * i + t + 1) from by omega]
  omega
/-- the bits of bytes -/
def bit (f : Nat → Nat) (j : Nat) : Bool := (f (j / 8)).testBit (j % 8)
theorem bits_snoc (f : Nat → Nat) (i : Nat) (hf : f i < 256) : Bi.bis (bit f) (8 * i) ++ Bi.bis (BitVec.getLsbD (BitVec.ofNat 64 (f i))) 8 = Bi.bis (bit f) (8 * (i + 1)) := by
  rw [Bi.app, show 8 * (i + 1) = 8 * i + 8 from by omega]
  refine Bi.congr (fun j hj => ?_)
  by_cases h : j < 8 * i
  · rw [if_pos h]
  · rw [if_neg h]
    unfold bit
    rw [show j / 8 = i from by omega, show j % 8 = j - 8 * i from by omega, BitVec.getLsbD, BitVec.toNat_ofNat, Nat.mod_eq_of_lt (by omega)]
theorem num_lt (f : Nat → Nat) (hf : ∀ k, f k < 256) : ∀ i, num f i < 2 ^ (8 * i)
  | 0 => by rw [num]; exact Nat.pow_pos (by decide)
  | i + 1 => by
    have h := num_lt f hf i
    have h2 : f i * 2 ^ (8 * i) ≤ 255 * 2 ^ (8 * i) := Nat.mul_le_mul_right _ (by have := hf i; omega)
    rw [num, show 8 * (i + 1) = 8 * i + 8 from by omega, Nat.pow_add]
    omega
theorem num_bit (f : Nat → Nat) (hf : ∀ k, f k < 256) : ∀ i j, j < 8 * i → (num f i).testBit j = bit f j
  | 0, j, h => by omega
  | i + 1, j, h => by
    rw [num, Nat.add_comm, Nat.mul_comm (f i), Nat.testBit_two_pow_mul_add _ (num_lt f hf i)]
    by_cases hj : j < 8 * i
    · rw [if_pos hj]; exact num_bit f hf i j hj
    · rw [if_neg hj]; unfold bit; rw [show j / 8 = i from by omega, show j % 8 = j - 8 * i from by omega]
theorem of_val (f : Nat → Nat) (hf : ∀ k, f k < 256) : Bi.of (bit f) 128 = val f 16 := by
  refine Bi.of_eq _ _ _ (fun j hj => ?_)
  have e : num f 16 % 2 ^ 128 = num f 16 := Nat.mod_eq_of_lt (num_lt f hf 16)
  rw [val, BitVec.getLsbD, BitVec.toNat_ofNat, e, num_bit f hf 16 j (by omega), decide_eq_true hj, Bool.true_and]
end By
namespace Dg
def ints (l : List Nat) : List Value := l.map fun d => .int .i64 (d : Nat)
theorem ints_at (pre suf : List Nat) (d k : Nat) (h : pre.length = k) : (ints (pre ++ d :: suf))[k]? = some (.int .i64 (d : Nat)) := by
  subst h; simp [ints]
theorem ints_set (pre suf : List Nat) (d e k : Nat) (h : pre.length = k) : (ints (pre ++ d :: suf)).set k (.int .i64 (e : Nat)) = ints ((pre ++ [e]) ++ suf) := by
  subst h; simp [ints]
theorem ints_snoc (l : List Nat) (c : Nat) : ints l ++ [.int .i64 (c : Nat)] = ints (l ++ [c]) := by simp [ints]
/-- a number's digits twice, and a bit more -/
def dbl : List Nat → Nat → List Nat
  | [], c => if 0 < c then [c] else []
  | d :: l, c => (2 * d + c) % 10 :: dbl l ((2 * d + c) / 10)
theorem dbl_dsF : ∀ (f n c : Nat), n < 10 ^ (f + 1) → c ≤ 1 → dsF (f + 2) (2 * n + c) = dbl (dsF (f + 1) n) c
  | 0, n, c, h, hc => by
    have hn : n < 10 := by simpa using h
    rw [dsF_small 0 n hn, dbl, dbl]
    by_cases h2 : 2 * n + c < 10
    · rw [dsF_small _ _ h2, if_neg (by omega), Nat.mod_eq_of_lt h2]
    · rw [dsF_step _ _ (by omega), dsF_small _ _ (by omega), if_pos (by omega)]
  | f + 1, n, c, h, hc => by
    by_cases hn : n < 10
    · rw [dsF_small _ n hn, dbl, dbl]
      by_cases h2 : 2 * n + c < 10
      · rw [dsF_small _ _ h2, if_neg (by omega), Nat.mod_eq_of_lt h2]
      · rw [dsF_step _ _ (by omega), dsF_small _ _ (by omega), if_pos (by omega)]
    · rw [dsF_step (f + 1) n (by omega), dsF_step (f + 2) _ (by omega), dbl, show (2 * n + c) % 10 = (2 * (n % 10) + c) % 10 from by omega,
        show (2 * n + c) / 10 = 2 * (n / 10) + (2 * (n % 10) + c) / 10 from by omega]
      rw [dbl_dsF f (n / 10) _ (by have := pow10 (f + 1); omega) (by omega)]
theorem ds_dbl (n c : Nat) (hc : c ≤ 1) (h : 2 * n + c < M) : ds (2 * n + c) = dbl (ds n) c := by
  have e : (10 : Nat) ^ 38 = 100000000000000000000000000000000000000 := by decide
  have e' : (10 : Nat) ^ 39 = 1000000000000000000000000000000000000000 := by decide
  have e4 : (10 : Nat) ^ 40 = 10000000000000000000000000000000000000000 := by decide
  unfold M at h
  have := dbl_dsF 38 n c (by show n < 10 ^ 39; omega) hc
  unfold ds
  rw [← this]
  exact dsF_same 38 39 _ (by show _ < 10 ^ 39; omega) (by show _ < 10 ^ 40; omega)
theorem len_pos' (n : Nat) : 0 < len n := len_pos 38 n
theorem digit' {n d : Nat} (h : d ∈ ds n) : d < 10 := digit 39 n d h
theorem get (n k : Nat) (h : k < len n) : (ints (ds n))[k]? = some (.int .i64 ((ds n).getD k 0 : Nat)) := by
  unfold len at h
  simp [ints, h]
theorem get_lt (n k : Nat) : (ds n).getD k 0 < 10 := by
  rw [List.getD_eq_getElem?_getD]
  by_cases h : k < (ds n).length
  · rw [List.getElem?_eq_getElem h, Option.getD_some]; exact digit' (List.getElem_mem h)
  · rw [List.getElem?_eq_none (by omega)]; decide
def one (d : Nat) : ByteArray := ⟨[byte d].toArray⟩
theorem one_fold (d : Nat) : ([((48 + d : Nat) : Int)]).foldl (fun r n => r.push (UInt8.ofNat n.toNat)) ByteArray.empty = one d := by
  rw [List.foldl_cons, List.foldl_nil, Int.toNat_natCast]; rfl
/-- the last so many digits told -/
def strp (n k : Nat) : ByteArray := ⟨(((ds n).take k).reverse.map byte).toArray⟩
theorem strp_zero (n : Nat) : strp n 0 = ⟨#[]⟩ := rfl
theorem strp_size (n k : Nat) : (strp n k).size ≤ 39 := by
  have : (strp n k).size = (((ds n).take k).reverse.map byte).length := rfl
  rw [this, List.length_map, List.length_reverse, List.length_take]
  have := len_lt n
  unfold len at this
  omega
theorem strp_step (n k : Nat) (h : k < len n) : one ((ds n).getD k 0) ++ strp n k = strp n (k + 1) := by
  unfold len at h
  apply ByteArray.ext
  rw [ByteArray.data_append]
  unfold one strp
  dsimp only
  rw [List.take_add_one, List.getElem?_eq_getElem h, Option.toList_some, List.reverse_append, List.map_append, List.getD_eq_getElem?_getD, List.getElem?_eq_getElem h, Option.getD_some]
  simp
theorem strp_all (n : Nat) : strp n (len n) = str n := by
  unfold strp str text len
  rw [List.take_of_length_le (Nat.le_refl _)]
theorem strp_sum (n k d : Nat) : (one d).size + (strp n k).size ≤ 9223372036854775807 := by
  have := strp_size n k
  have : (one d).size = 1 := rfl
  omega
end Dg
end Go.Proofs.Ytpbdffmgendboab
