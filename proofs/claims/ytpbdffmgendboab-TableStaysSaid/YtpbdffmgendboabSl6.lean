/- Parts of slices; what reads as bits. -/
import Derived.Test.YtpbdffmgendboabSl5
namespace Go.Proofs.Ytpbdffmgendboab
open Go Go.RowKit
namespace Sx
section
variable {P : Program} {w0 w : World} {a : Act} {o : Oper} {n : Nat} {kv : List (Nat × Value)}
theorem size_of {t E : TypeId} {z bytes : Nat} (hT : elemT P t E z bytes) : (sizeOf E).run P w = .ok z w := by
  have := hT.2
  cases hq : P.info? E with
  | none => rw [hq] at this; cases this
  | some i =>
    rw [hq] at this
    simp only [Option.map_some, Option.some.injEq, Prod.mk.injEq] at this
    simp [sizeOf, typeInfo, hq, this.2.1]
theorem elem_of {t E : TypeId} {z bytes : Nat} (hT : elemT P t E z bytes) : P.elem t = E := by
  unfold Program.elem; rw [hT.1]
theorem run_sliceH {t E : TypeId} {z bytes h len cap g off : Nat} {kd : IntKind} (hT : elemT P t E z bytes) (hk : h ≤ cap) : (Instr.sliceAt t (.slice (some ⟨g, off, none⟩) len cap) none (some (.int kd (h : Int))) none).run P w = .ok (.slice (some ⟨g, off, none⟩) h cap) w := by
  have he := elem_of hT
  have hu : P.underlying t = some (.slice (P.elem t)) := by rw [he]; exact hT.1
  rw [run_sliceAt_slice _ t _ _ _ _ hu, run_slice_h _ t _ len cap hu kd (h : Int) (by omega) (by omega), he, size_of hT, Result.andThen_ok]
  unfold sliced
  rw [Int.toNat_natCast]
  by_cases hc : cap = 0
  · rw [if_pos hc]; rfl
  · rw [if_neg hc, Nat.zero_mul]; rfl
theorem run_sliceL {t E : TypeId} {z bytes l len cap g off : Nat} {kd : IntKind} (hT : elemT P t E z bytes) (hk : l ≤ len) : (Instr.sliceAt t (.slice (some ⟨g, off, none⟩) len cap) (some (.int kd (l : Int))) none none).run P w = .ok (.slice (if cap = l then some ⟨g, off, none⟩ else some ⟨g, off + l * z, none⟩) (len - l) (cap - l)) w := by
  have he := elem_of hT
  have hu : P.underlying t = some (.slice (P.elem t)) := by rw [he]; exact hT.1
  rw [run_sliceAt_slice _ t _ _ _ _ hu, run_slice_l _ t _ len cap hu kd (l : Int) (by omega) (by omega), he, size_of hT, Result.andThen_ok]
  unfold sliced
  rw [Int.toNat_natCast]
  by_cases hc : cap = l
  · rw [if_pos hc, if_pos hc]
  · rw [if_neg hc, if_neg hc]; simp [Addr.add_mid]
theorem d_sliceH {x j : Operand} {t E : TypeId} {z bytes h len cap g off : Nat} {kd : IntKind} {i : Int} (hT : elemT P t E z bytes) (F : Fr n a kv) (ho : o.op = .slice t x none (some j) none) (hx : ev kv x = some (.slice (some ⟨g, off, none⟩) len cap)) (hj : ev kv j = some (.int kd i)) (hi : i = (h : Int)) (hk : h ≤ cap) :
    Does P o a w (fun y w' => y = .slice (some ⟨g, off, none⟩) h cap ∧ w' = w) := by
  subst hi
  refine does_run ?_
  unfold execOp; rw [ho]; simp only [F.ev hx, F.ev hj, Option.map_some, Option.map_none, Sem.run_bind, run_sliceH hT hk]; rfl
theorem d_sliceL {x j : Operand} {t E : TypeId} {z bytes l len cap g off : Nat} {kd : IntKind} {i : Int} (hT : elemT P t E z bytes) (F : Fr n a kv) (ho : o.op = .slice t x (some j) none none) (hx : ev kv x = some (.slice (some ⟨g, off, none⟩) len cap)) (hj : ev kv j = some (.int kd i)) (hi : i = (l : Int)) (hk : l ≤ len) :
    Does P o a w (fun y w' => y = .slice (if cap = l then some ⟨g, off, none⟩ else some ⟨g, off + l * z, none⟩) (len - l) (cap - l) ∧ w' = w) := by
  subst hi
  refine does_run ?_
  unfold execOp; rw [ho]; simp only [F.ev hx, F.ev hj, Option.map_some, Option.map_none, Sem.run_bind, run_sliceL hT hk]; rfl
theorem run_sliceLH {t E : TypeId} {z bytes l h len cap g off off' m c' : Nat} {kd ke : IntKind} (hT : elemT P t E z bytes) (hl : l ≤ h) (hk : h ≤ cap) (hc : cap ≠ l) (h1 : off + l * z = off') (h2 : h - l = m) (h3 : cap - l = c') : (Instr.sliceAt t (.slice (some ⟨g, off, none⟩) len cap) (some (.int kd (l : Int))) (some (.int ke (h : Int))) none).run P w = .ok (.slice (some ⟨g, off', none⟩) m c') w := by
  have he := elem_of hT
  have hu : P.underlying t = some (.slice (P.elem t)) := by rw [he]; exact hT.1
  rw [run_sliceAt_slice _ t _ _ _ _ hu, run_slice_lh _ t _ len cap hu kd ke (l : Int) (h : Int) (by omega) (by omega) (by omega), he, size_of hT, Result.andThen_ok]
  unfold sliced
  rw [Int.toNat_natCast, Int.toNat_natCast, if_neg hc]; subst h1; subst h2; subst h3; simp [Addr.add_mid]
theorem d_sliceLH {x j k : Operand} {t E : TypeId} {z bytes l h len cap g off off' m c' : Nat} {kd ke : IntKind} {i i' : Int} (hT : elemT P t E z bytes) (F : Fr n a kv) (ho : o.op = .slice t x (some j) (some k) none) (hx : ev kv x = some (.slice (some ⟨g, off, none⟩) len cap)) (hj : ev kv j = some (.int kd i)) (hj' : ev kv k = some (.int ke i')) (hi : i = (l : Int)) (hi' : i' = (h : Int)) (hl : l ≤ h) (hk : h ≤ cap) (hc : cap ≠ l) (h1 : off + l * z = off') (h2 : h - l = m) (h3 : cap - l = c') :
    Does P o a w (fun y w' => y = .slice (some ⟨g, off', none⟩) m c' ∧ w' = w) := by
  subst hi; subst hi'
  refine does_run ?_
  unfold execOp; rw [ho]; simp only [F.ev hx, F.ev hj, F.ev hj', Option.map_some, Option.map_none, Sem.run_bind, run_sliceLH hT hl hk hc h1 h2 h3]; rfl
end
end Sx
namespace Bi
theorem Rd.part {w : World} {g off len cap : Nat} {f : Nat → Bool} (h : Rd w (.slice (some ⟨g, off, none⟩) len cap) f len) (l m : Nat) (hm : l + m ≤ len) (c off' : Nat) (ho : off + l = off') :
    Rd w (.slice (some ⟨g, off', none⟩) m c) (fun i => f (l + i)) m := by
  obtain ⟨h1, ad', cap', e, hc⟩ := h
  cases e
  refine ⟨by omega, _, _, rfl, fun k hk => ?_⟩
  obtain ⟨g', o', e', hcell⟩ := hc (l + k) (by omega)
  cases e'
  exact ⟨g, off', rfl, by rw [← ho, Nat.add_assoc]; exact hcell⟩
/-- the first ones of what reads as bits -/
theorem Rd.take {w : World} {ad : Option Addr} {len cap : Nat} {f : Nat → Bool} (h : Rd w (.slice ad len cap) f len) (m : Nat) (hm : m ≤ len) : Rd w (.slice ad m cap) f m := by
  obtain ⟨h1, ad', cap', e, hc⟩ := h
  cases e
  exact ⟨by omega, ad, cap, rfl, fun k hk => hc k (by omega)⟩
theorem Rd.drop {w : World} {g off len cap : Nat} {f : Nat → Bool} (h : Rd w (.slice (some ⟨g, off, none⟩) len cap) f len) (m : Nat) (hm : m ≤ len) (hl : len ≤ cap) :
    Rd w (.slice (if cap = m then some ⟨g, off, none⟩ else some ⟨g, off + m * 1, none⟩) (len - m) (cap - m)) (fun i => f (m + i)) (len - m) := by
  obtain ⟨h1, ad', cap', e, hc⟩ := h
  cases e
  refine ⟨by omega, _, _, rfl, fun k hk => ?_⟩
  have hne : cap ≠ m := by omega
  obtain ⟨g', o', e', hcell⟩ := hc (m + k) (by omega)
  cases e'
  exact ⟨g, off + m * 1, by rw [if_neg hne], by rw [Nat.mul_one, Nat.add_assoc]; exact hcell⟩
theorem Rd.congr {w : World} {v : Value} {f g : Nat → Bool} {len : Nat} (h : Rd w v f len) (hf : ∀ i, i < len → f i = g i) : Rd w v g len := by
  obtain ⟨h1, ad, cap, e, hc⟩ := h
  refine ⟨h1, ad, cap, e, fun k hk => ?_⟩
  rw [← hf k hk]; exact hc k hk
/-- zeros ahead -/
def up (x : BitVec 128) (t : Nat) (i : Nat) : Bool := if i < t then false else x.getLsbD (i - t)
theorem of_up (x : BitVec 128) (t : Nat) : of (up x t) 128 = x <<< t := by
  refine of_eq _ _ _ (fun i hi => ?_)
  rw [BitVec.getLsbD_shiftLeft, decide_eq_true hi, Bool.true_and, Bool.true_and]
  unfold up
  by_cases h : i < t
  · rw [if_pos h, decide_eq_true h]; rfl
  · rw [if_neg h, decide_eq_false h]; rfl
theorem app_up (x : BitVec 128) (t : Nat) : bis (fun _ => false) t ++ bis (BitVec.getLsbD x) 128 = bis (up x t) (t + 128) := by
  rw [app]; exact Bi.congr (fun i _ => rfl)
theorem of_down (x : BitVec 128) (t : Nat) (ht : t ≤ 128) : of (fun i => x.getLsbD (t + i)) (128 - t) = x >>> t := by
  refine of_eq _ _ _ (fun i hi => ?_)
  rw [BitVec.getLsbD_ushiftRight]
  by_cases h : i < 128 - t
  · rw [decide_eq_true h, Bool.true_and]
  · rw [decide_eq_false h, Bool.false_and]; exact BitVec.getLsbD_of_ge _ _ (by omega)
/-- sums, bit by bit -/
def car (f g : Nat → Bool) : Nat → Bool
  | 0 => false
  | i + 1 => Bool.atLeastTwo (f i) (g i) (car f g i)
def s2 (f g : Nat → Bool) (i : Nat) : Nat := (f i).toNat + (g i).toNat
def s3 (f g : Nat → Bool) (i : Nat) : Nat := s2 f g i + (car f g i).toNat
def sb (f g : Nat → Bool) (i : Nat) : Bool := (f i ^^ (g i ^^ car f g i))
theorem s2_lt (f g : Nat → Bool) (i : Nat) : s2 f g i < 3 := by unfold s2; have := bl (f i); have := bl (g i); omega
theorem s3_lt (f g : Nat → Bool) (i : Nat) : s3 f g i < 4 := by unfold s3; have := s2_lt f g i; have := bl (car f g i); omega
theorem s3_rem (f g : Nat → Bool) (i : Nat) : s3 f g i % 2 = (sb f g i).toNat := by
  unfold s3 s2 sb; cases f i <;> cases g i <;> cases car f g i <;> rfl
theorem s3_quo (f g : Nat → Bool) (i : Nat) : s3 f g i / 2 = (car f g (i + 1)).toNat := by
  show s3 f g i / 2 = (Bool.atLeastTwo (f i) (g i) (car f g i)).toNat
  unfold s3 s2; cases f i <;> cases g i <;> cases car f g i <;> rfl
def sumb (f g : Nat → Bool) (m i : Nat) : Bool := if i < m then sb f g i else car f g m
theorem sum_row (f g : Nat → Bool) (m : Nat) : bis (sb f g) m ++ [.int .i64 ((car f g m).toNat : Nat)] = bis (sumb f g m) (m + 1) := by
  rw [snoc (sumb f g m) m, show sumb f g m m = car f g m from if_neg (Nat.lt_irrefl m)]
  congr 1
  exact congr (fun i hi => (if_pos hi).symm)
theorem car_eq {n : Nat} (x y : BitVec n) : ∀ i, car x.getLsbD y.getLsbD i = BitVec.carry i x y false
  | 0 => by simp [car, BitVec.carry_zero]
  | i + 1 => by rw [BitVec.carry_succ, ← car_eq x y i]; rfl
theorem sb_eq {n : Nat} (x y : BitVec n) (i : Nat) (h : i < n) : sb x.getLsbD y.getLsbD i = (x + y).getLsbD i := by
  rw [BitVec.getLsbD_add h, ← car_eq]; rfl
end Bi
end Go.Proofs.Ytpbdffmgendboab
