/- Rows of bytes, numbers of bytes, digits in a row: in plain Lean. -/
import Derived.Test.YtpbdffmgendboabSl7
import Derived.Test.YtpbdffmgendboabDgPlain
import Derived.Test.YtpbdffmgendboabDvPlain
namespace Go.Proofs.Ytpbdffmgendboab
open Go Go.RowKit
namespace By
def bys (f : Nat → Nat) (n : Nat) : List Value := (List.range n).map fun i => .int .u8 (f i : Nat)
theorem at_ (f : Nat → Nat) (n k : Nat) (h : k < n) : (bys f n)[k]? = some (.int .u8 (f k : Nat)) := by simp [bys, h]
theorem snoc (f : Nat → Nat) (n : Nat) : bys f (n + 1) = bys f n ++ [.int .u8 (f n : Nat)] := by simp [bys, List.range_succ]
theorem len (f : Nat → Nat) (n : Nat) : (bys f n).length = n := by simp [bys]
def put (a : BitVec 128) (i : Nat) : Nat := a.toNat / 2 ^ (8 * i) % 256
theorem put_lt (a : BitVec 128) (i : Nat) : put a i < 256 := Nat.mod_lt _ (by decide)
theorem put_lo (a : BitVec 128) (i : Nat) : (Wd.lo (a >>> (8 * i))).toNat % 256 = put a i := by
  rw [Wd.lo_nat, BitVec.toNat_ushiftRight, Nat.shiftRight_eq_div_pow, put]; omega
/-- so many bytes laid -/
def row (a : BitVec 128) (i : Nat) : List Value := bys (put a) i ++ List.replicate (16 - i) (.int .u8 0)
theorem row_zero (a : BitVec 128) : row a 0 = List.replicate 16 (.int .u8 0) := rfl
theorem row_set (a : BitVec 128) (i : Nat) (h : i < 16) : (row a i).set i (.int .u8 (put a i : Nat)) = row a (i + 1) := by
  have e : 16 - i = (16 - (i + 1)) + 1 := by omega
  unfold row
  rw [e, List.replicate_succ, List.set_append_right _ _ (by rw [len]; exact Nat.le_refl _), len, Nat.sub_self, List.set_cons_zero, snoc, List.append_assoc]; rfl
theorem row_all (a : BitVec 128) : row a 16 = bys (put a) 16 := by unfold row; rw [Nat.sub_self, List.replicate_zero, List.append_nil]
/-- a slice that reads as bytes -/
def Rd (w : World) (v : Value) (f : Nat → Nat) (len : Nat) : Prop := len ≤ 1000000 ∧ ∃ ad cap, v = .slice ad len cap ∧ ∀ k, k < len → ∃ g o, ad = some ⟨g, o, none⟩ ∧ w.cell? ⟨g, o + k, none⟩ = some (.int .u8 (f k : Nat))
theorem Rd.below {w w' : World} {v : Value} {f : Nat → Nat} {len : Nat} (h : Rd w v f len) (hb : Below w.heap.size w w') : Rd w' v f len := by
  obtain ⟨hl, ad, cap, rfl, hc⟩ := h
  refine ⟨hl, ad, cap, rfl, fun k hk => ?_⟩
  obtain ⟨g, o, e, hcell⟩ := hc k hk
  exact ⟨g, o, e, (hb.cell (p := ⟨g, o + k, none⟩) (lt_cell hcell)).trans hcell⟩
theorem Rd.row {w : World} {lo : Nat} {E : TypeId} {v : Value} {f : Nat → Nat} {len : Nat} (h : w.ownsRow lo E 1 v len (bys f len)) (hl : len ≤ 1000000) : Rd w v f len := by
  refine ⟨hl, ?_⟩
  rcases h.2 with ⟨rfl, rfl⟩ | ⟨g, cap, cur, rfl, _⟩
  · exact ⟨none, 0, rfl, fun k hk => absurd hk (Nat.not_lt_zero _)⟩
  · exact ⟨_, cap, rfl, fun k hk => ⟨g, 0, rfl, by rw [Nat.zero_add, World.ownsRow.cellAt h k (by omega), at_ f len k hk]⟩⟩
/-- the number of bytes -/
def num (f : Nat → Nat) : Nat → Nat
  | 0 => 0
  | i + 1 => num f i + f i * 2 ^ (8 * i)
def val (f : Nat → Nat) (i : Nat) : BitVec 128 := BitVec.ofNat 128 (num f i)
theorem take_step (f : Nat → Nat) (i : Nat) (hf : f i < 256) : val f i + (Wd.of (BitVec.ofNat 64 (f i))) <<< (8 * i) = val f (i + 1) := by
  apply BitVec.eq_of_toNat_eq
  have e : (Wd.of (BitVec.ofNat 64 (f i))).toNat = f i := by
    unfold Wd.of; rw [Wd.mk_nat, BitVec.toNat_ofNat]; simp; omega
  rw [BitVec.toNat_add, BitVec.toNat_shiftLeft, e, val, val, BitVec.toNat_ofNat, BitVec.toNat_ofNat, num, Nat.shiftLeft_eq, ← Nat.add_mod]
theorem num_put (a : BitVec 128) : ∀ i, num (put a) i = a.toNat % 2 ^ (8 * i)
  | 0 => by rw [num, Nat.mul_zero, Nat.pow_zero, Nat.mod_one]
  | i + 1 => by
    rw [num, num_put a i, put, show 8 * (i + 1) = 8 * i + 8 from by omega, Nat.pow_add, Nat.mod_mul, Nat.mul_comm (2 ^ (8 * i))]
theorem back (a : BitVec 128) : val (put a) 16 = a := by
  apply BitVec.eq_of_toNat_eq
  rw [val, BitVec.toNat_ofNat, num_put, Nat.mod_mod]; exact Nat.mod_eq_of_lt a.isLt
end By
namespace Dg
def row (D : List Nat) : List Value := (D.map fun d => ((48 + d : Nat) : Int)).map (Value.int .u8)
def cnt : List Nat → Nat
  | [] => 0
  | _ :: l => 1 + cnt l
theorem cnt_eq : ∀ l, cnt l = l.length
  | [] => rfl
  | _ :: l => by rw [cnt, cnt_eq l, List.length_cons, Nat.add_comm]
theorem row_ones : ∀ l, Sx.ones (row l) = true
  | [] => rfl
  | _ :: l => row_ones l
theorem fold : ∀ (l : List Nat) (acc : List UInt8), (l.map fun d => ((48 + d : Nat) : Int)).foldl (fun r n => r.push (UInt8.ofNat n.toNat)) (⟨acc.toArray⟩ : ByteArray) = ⟨(acc ++ l.map byte).toArray⟩
  | [], acc => by rw [List.map_nil, List.map_nil, List.append_nil]; rfl
  | d :: l, acc => by
    rw [List.map_cons, List.foldl_cons, List.map_cons]
    have := fold l (acc ++ [byte d])
    rw [List.append_assoc] at this
    rw [show (⟨acc.toArray⟩ : ByteArray).push (UInt8.ofNat (((48 + d : Nat) : Int)).toNat) = ⟨(acc ++ [byte d]).toArray⟩ from by
      rw [Int.toNat_natCast]
      have e : ∀ b : UInt8, (⟨acc.toArray⟩ : ByteArray).push b = ⟨(acc ++ [b]).toArray⟩ := fun b => by
        apply ByteArray.ext; simp [ByteArray.push]
      exact e (byte d)]
    exact this
theorem fold_str (l : List Nat) (n : Nat) (h : (ds n).reverse = l) : (l.map fun d => ((48 + d : Nat) : Int)).foldl (fun r n => r.push (UInt8.ofNat n.toNat)) ByteArray.empty = str n := by
  have := fold l []
  rw [List.nil_append] at this
  rw [str, text, h]; exact this
theorem str_size (n : Nat) : (str n).size = len n := by rw [← text_len]; rfl
theorem inv_len {n m : Nat} {D : List Nat} (h : (ds n).reverse = (ds m).reverse ++ D) : cnt D ≤ 39 := by
  have := congrArg List.length h
  rw [List.length_reverse, List.length_append] at this
  have h2 := len_lt n
  unfold len at h2
  rw [cnt_eq]; omega
theorem inv_step (a : BitVec 128) {n : Nat} {D : List Nat} (h : (ds n).reverse = (ds a.toNat).reverse ++ D) (hz : a.toNat / 10 ≠ 0) : (ds n).reverse = (ds (Wd.ten a).toNat).reverse ++ (a.toNat % 10 :: D) := by
  rw [h, Wd.ten_nat, ten_more a.toNat a.isLt hz, List.append_assoc]; rfl
theorem inv_last {m n : Nat} {D : List Nat} (h : (ds n).reverse = (ds m).reverse ++ D) (hz : m / 10 = 0) : (ds n).reverse = m % 10 :: D := by
  rw [h, ten_last m hz]; rfl
end Dg
end Go.Proofs.Ytpbdffmgendboab
