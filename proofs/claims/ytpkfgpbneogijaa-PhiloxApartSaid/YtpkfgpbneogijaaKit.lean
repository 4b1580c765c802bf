/- Small lemmas on endings, BitVec and the walk's integers. -/
import Derived.Test.YtpkfgpbneogijaaProg
import Derived.WalkKit
import Derived.Deep.QuietTactic
import Derived.BigQuiet
import Derived.WalkSpells
import Derived.Outline
import Derived.Lib.Hide
import Derived.Handy
import Derived.Laws.EntriesVeiled
import Derived.Deep.RegionWith
import Derived.Deep.LoopGhost
import Derived.WalkSmall
namespace Go.Proofs.Ytpkfgpbneogijaa
open Go Go.RowKit

/- for the walk: an old cell and an old mark behind a new block -/
@[go_sem] theorem cell_past (w : World) (o : Obj) (a : Addr) (h : (w.cell? a).isSome = true) : (w.alloc o).cell? a = w.cell? a := by
  refine World.cell?_alloc_old w o a (fun e => ?_)
  simp [World.cell?, e] at h
@[go_sem] theorem frozen_past (w : World) (o : Obj) (a : Addr) (h : (w.cell? a).isSome = true) : (w.alloc o).frozen? a = w.frozen? a := by
  refine World.frozen?_alloc_old w o a (fun e => ?_)
  simp [World.cell?, e] at h

theorem ret_int {k : IntKind} {a b : Int} (h : a = b) : Ending.returned (.int k a) = .returned (.int k b) := by rw [h]
theorem agg2_eq {k : IntKind} {a0 a1 b0 b1 : Int} (h0 : a0 = b0) (h1 : a1 = b1) : Value.agg #[.int k a0, .int k a1] = .agg #[.int k b0, .int k b1] := by rw [h0, h1]
theorem agg4_eq {k : IntKind} {a0 a1 a2 a3 b0 b1 b2 b3 : Int} (h0 : a0 = b0) (h1 : a1 = b1) (h2 : a2 = b2) (h3 : a3 = b3) :
    Value.agg #[.int k a0, .int k a1, .int k a2, .int k a3] = .agg #[.int k b0, .int k b1, .int k b2, .int k b3] := by rw [h0, h1, h2, h3]
theorem ret_agg2 {k : IntKind} {a0 a1 b0 b1 : Int} (h0 : a0 = b0) (h1 : a1 = b1) : Ending.returned (.agg #[.int k a0, .int k a1]) = .returned (.agg #[.int k b0, .int k b1]) := by rw [h0, h1]
theorem ret_agg4 {k : IntKind} {a0 a1 a2 a3 b0 b1 b2 b3 : Int} (h0 : a0 = b0) (h1 : a1 = b1) (h2 : a2 = b2) (h3 : a3 = b3) :
    Ending.returned (.agg #[.int k a0, .int k a1, .int k a2, .int k a3]) = .returned (.agg #[.int k b0, .int k b1, .int k b2, .int k b3]) := by rw [h0, h1, h2, h3]

/- 32 bits -/
theorem xor32 (a b : BitVec 32) : bits .xor .u32 (a.toNat : Int) (b.toNat : Int) = ((a ^^^ b).toNat : Int) := by
  show IntKind.u32.wrap ((BitVec.ofInt 32 (a.toNat : Int) ^^^ BitVec.ofInt 32 (b.toNat : Int)).toNat : Int) = _
  rw [BitVec.ofInt_natCast, BitVec.ofInt_natCast, BitVec.ofNat_toNat, BitVec.ofNat_toNat, BitVec.setWidth_eq, BitVec.setWidth_eq, IntKind.wrap_u32]
  have := (a ^^^ b).isLt
  omega
theorem add32 (a b : BitVec 32) : ((a.toNat : Int) + (b.toNat : Int)) % 4294967296 = ((a + b).toNat : Int) := by
  rw [BitVec.toNat_add]; omega
theorem mul32 (a b : BitVec 32) : ((a.toNat : Int) * (b.toNat : Int)) % 4294967296 = ((a * b).toNat : Int) := by
  rw [BitVec.toNat_mul, Int.natCast_emod, Int.natCast_mul]; rfl
theorem sub32 (a b : BitVec 32) : ((a.toNat : Int) - (b.toNat : Int)) % 4294967296 = ((a - b).toNat : Int) := by
  rw [BitVec.toNat_sub]; have := a.isLt; have := b.isLt; omega
theorem w32 (z : Int) : z % 4294967296 = ((BitVec.ofInt 32 z).toNat : Int) := by
  rw [BitVec.toNat_ofInt]; omega
theorem w64 (z : Int) : z % 18446744073709551616 = ((BitVec.ofInt 64 z).toNat : Int) := by
  rw [BitVec.toNat_ofInt]; omega
theorem oi_sub {n : Nat} (x y : Int) : BitVec.ofInt n (x - y) = BitVec.ofInt n x - BitVec.ofInt n y := by
  rw [Int.sub_eq_add_neg, BitVec.ofInt_add, BitVec.ofInt_neg, BitVec.sub_eq_add_neg]
theorem oi_toNat {n : Nat} (x : BitVec n) : BitVec.ofInt n (x.toNat : Int) = x := by simp
/- 64 bits -/
theorem xor64 (a b : BitVec 64) : bits .xor .u64 (a.toNat : Int) (b.toNat : Int) = ((a ^^^ b).toNat : Int) := by
  show IntKind.u64.wrap ((BitVec.ofInt 64 (a.toNat : Int) ^^^ BitVec.ofInt 64 (b.toNat : Int)).toNat : Int) = _
  rw [BitVec.ofInt_natCast, BitVec.ofInt_natCast, BitVec.ofNat_toNat, BitVec.ofNat_toNat, BitVec.setWidth_eq, BitVec.setWidth_eq, IntKind.wrap_u64]
  have := (a ^^^ b).isLt
  omega
theorem or64 (a b : BitVec 64) : bits .or .u64 (a.toNat : Int) (b.toNat : Int) = ((a ||| b).toNat : Int) := by
  show IntKind.u64.wrap ((BitVec.ofInt 64 (a.toNat : Int) ||| BitVec.ofInt 64 (b.toNat : Int)).toNat : Int) = _
  rw [BitVec.ofInt_natCast, BitVec.ofInt_natCast, BitVec.ofNat_toNat, BitVec.ofNat_toNat, BitVec.setWidth_eq, BitVec.setWidth_eq, IntKind.wrap_u64]
  have := (a ||| b).isLt
  omega
theorem and64 (a b : BitVec 64) : bits .and .u64 (a.toNat : Int) (b.toNat : Int) = ((a &&& b).toNat : Int) := by
  show IntKind.u64.wrap ((BitVec.ofInt 64 (a.toNat : Int) &&& BitVec.ofInt 64 (b.toNat : Int)).toNat : Int) = _
  rw [BitVec.ofInt_natCast, BitVec.ofInt_natCast, BitVec.ofNat_toNat, BitVec.ofNat_toNat, BitVec.setWidth_eq, BitVec.setWidth_eq, IntKind.wrap_u64]
  have := (a &&& b).isLt
  omega
theorem add64 (a b : BitVec 64) : ((a.toNat : Int) + (b.toNat : Int)) % 18446744073709551616 = ((a + b).toNat : Int) := by
  rw [BitVec.toNat_add]; omega
theorem mul64 (a b : BitVec 64) : ((a.toNat : Int) * (b.toNat : Int)) % 18446744073709551616 = ((a * b).toNat : Int) := by
  rw [BitVec.toNat_mul, Int.natCast_emod, Int.natCast_mul]; rfl
theorem sub64 (a b : BitVec 64) : ((a.toNat : Int) - (b.toNat : Int)) % 18446744073709551616 = ((a - b).toNat : Int) := by
  rw [BitVec.toNat_sub]; have := a.isLt; have := b.isLt; omega
theorem shl64 (a : BitVec 64) (n : Nat) : ((a.toNat : Int) * ((2 ^ n : Nat) : Int)) % 18446744073709551616 = ((a <<< n).toNat : Int) := by
  rw [BitVec.toNat_shiftLeft, Nat.shiftLeft_eq, Int.natCast_emod, Int.natCast_mul]; rfl
theorem shr64 (a : BitVec 64) (n : Nat) : ((a.toNat : Int) / ((2 ^ n : Nat) : Int)) = ((a >>> n).toNat : Int) := by
  rw [BitVec.toNat_ushiftRight, Nat.shiftRight_eq_div_pow, Int.natCast_ediv]

/- a contract's value, written otherwise -/
theorem Calls.val {P : Program} {f : FuncId} {args args' : Array Value} {w : World} {v v' : Value} {B : World → Prop} (c : Calls P f args w fun e w' => e = .returned v ∧ B w') (ha : args = args') (hv : v = v') :
    Calls P f args' w fun e w' => e = .returned v' ∧ B w' := by
  subst ha; subst hv; exact c
/- behind a contract -/
theorem quiet_eq {P : Program} {f : FuncId} {args : Array Value} {w : World} {n : Nat} {v : Value}
    (h : Calls P f args (w.drewN n) fun e w' => e = .returned v ∧ w.drewN n = w') : Calls P f args (w.drewN n) fun e w'' => e = .returned v ∧ ∃ m, w'' = w.drewN m :=
  h.mono fun _ _ ⟨he, hm⟩ => ⟨he, n, hm.symm⟩
theorem bcell {W w1 : World} (hb : Below W.heap.size W w1) : (∀ b o, b < W.heap.size → w1.cell? ⟨b, o, none⟩ = W.cell? ⟨b, o, none⟩) ∧ (∀ b o, b < W.heap.size → w1.frozen? ⟨b, o, none⟩ = W.frozen? ⟨b, o, none⟩) :=
  ⟨fun b o h => hb.cell (p := ⟨b, o, none⟩) h, fun b o h => hb.frozen (p := ⟨b, o, none⟩) h⟩

theorem lt_cell {W : World} {a : Addr} {v : Value} (h : W.cell? a = some v) : a.block < W.heap.size := by
  unfold World.cell? at h
  by_cases hb : a.block < W.heap.size
  · exact hb
  · rw [Array.getElem?_eq_none (by omega)] at h; simp at h
theorem keep_cell {W w1 : World} (hb : Below W.heap.size W w1) : ∀ (a : Addr) (v : Value), W.cell? a = some v → w1.cell? a = some v :=
  fun a _ h => (hb.cell (lt_cell h)).trans h
/- variables of two and of four cells, in blocks of the call's own -/
def Box2 (w : World) (b : Nat) (v0 v1 : Value) : Prop :=
  (w.cell? ⟨b, 0, none⟩ = some v0 ∧ w.cell? ⟨b, 1, none⟩ = some v1) ∧ (w.frozen? ⟨b, 0, none⟩ = false ∧ w.frozen? ⟨b, 1, none⟩ = false)
def Box4 (w : World) (b : Nat) (v0 v1 v2 v3 : Value) : Prop :=
  (w.cell? ⟨b, 0, none⟩ = some v0 ∧ w.cell? ⟨b, 1, none⟩ = some v1 ∧ w.cell? ⟨b, 2, none⟩ = some v2 ∧ w.cell? ⟨b, 3, none⟩ = some v3) ∧
  (w.frozen? ⟨b, 0, none⟩ = false ∧ w.frozen? ⟨b, 1, none⟩ = false ∧ w.frozen? ⟨b, 2, none⟩ = false ∧ w.frozen? ⟨b, 3, none⟩ = false)

/- what lies from block lo on stays as it was -/
structure Mid (lo : Nat) (w w' : World) : Prop where
  size : w.heap.size ≤ w'.heap.size
  block : ∀ b, lo ≤ b → b < w.heap.size → w'.heap[b]? = w.heap[b]?
theorem Mid.refl (lo : Nat) (w : World) : Mid lo w w := ⟨Nat.le_refl _, fun _ _ _ => rfl⟩
theorem Mid.trans {lo : Nat} {a b c : World} (h : Mid lo a b) (k : Mid lo b c) : Mid lo a c :=
  ⟨Nat.le_trans h.size k.size, fun i hl hi => (k.block i hl (Nat.lt_of_lt_of_le hi h.size)).trans (h.block i hl hi)⟩
theorem Mid.mono {lo hi : Nat} {a b : World} (h : Mid lo a b) (hl : lo ≤ hi) : Mid hi a b := ⟨h.size, fun i hi' hs => h.block i (Nat.le_trans hl hi') hs⟩
theorem Mid.alloc {lo : Nat} {a w : World} (h : Mid lo a w) (o : Obj) : Mid lo a (w.alloc o) :=
  h.trans ⟨by simp, fun k _ hk => Below.heap_alloc _ _ _ hk⟩
theorem Mid.setCell {lo : Nat} {a w : World} (h : Mid lo a w) {p : Addr} (hp : p.block < lo) (u : Value) : Mid lo a (w.setCell p u) :=
  h.trans ⟨by simp [World.setCell], fun k hl hk => Below.heap_setCell _ _ _ _ (by omega)⟩
theorem Mid.drew {lo : Nat} {a w : World} (h : Mid lo a w) : Mid lo a w.drew := ⟨h.size, h.block⟩
theorem Mid.drewN {lo : Nat} {a w : World} (h : Mid lo a w) (n : Nat) : Mid lo a (w.drewN n) := ⟨h.size, h.block⟩
theorem Mid.below {lo : Nat} {a w w' : World} (h : Mid lo a w) (hb : Below w.heap.size w w') : Mid lo a w' :=
  h.trans ⟨hb.size, fun k _ hk => hb.block k hk⟩
theorem Mid.cell {lo : Nat} {w w' : World} (h : Mid lo w w') {p : Addr} {v : Value} (hl : lo ≤ p.block) (hs : p.block < w.heap.size) (hv : w.cell? p = some v) : w'.cell? p = some v :=
  (World.cell?_of_block (h.block _ hl hs)).trans hv
theorem Mid.owns {lo base size n : Nat} {e : TypeId} {v : Value} {xs : List Value} {w w' : World} (h : Mid lo w w') (hl : lo ≤ base) (ho : w.ownsRow base e size v n xs) : w'.ownsRow base e size v n xs := by
  refine ⟨ho.1, ?_⟩
  rcases ho.2 with hn | ⟨g, cap, cur, rfl, hb, hgg, rest⟩
  · exact .inl hn
  · refine .inr ⟨g, cap, cur, rfl, hb, ?_, rest⟩
    rw [h.block g (Nat.le_trans hl hb) (Array.getElem?_eq_some_iff.1 hgg).1]
    exact hgg
end Go.Proofs.Ytpkfgpbneogijaa
